/- A part of the proof that the law returns true for every input: an executor for the model's code, and what functions of the program compute. -/
import Derived.Test.YtcafjpldfnegiaaDoorB11
import Derived.Test.YtcafjpldfnegiaaDoorB15
import Derived.Test.YtcafjpldfnegiaaDoorB16
import Derived.Test.YtcafjpldfnegiaaDoorB22
import Derived.Test.YtcafjpldfnegiaaDoorB23
import Derived.KernelRfl
open Go IntKind
namespace Go.Fw
set_option maxRecDepth 100000
theorem zfu(n:Int)(h1:decide (n<(0:Int))=true)(a:(0:Int)≤i64.wrap ((u64.wrap ((0:Int)-u64.wrap n)).tmod (16777216:Int))∧i64.wrap ((u64.wrap ((0:Int)-u64.wrap n)).tmod (16777216:Int))<(16777216:Int))(d:(0:Int)≤i64.wrap ((u64.wrap ((u64.wrap ((0:Int)-u64.wrap n)).tdiv (16777216:Int))).tmod (16777216:Int))∧i64.wrap ((u64.wrap ((u64.wrap ((0:Int)-u64.wrap n)).tdiv (16777216:Int))).tmod (16777216:Int))<(16777216:Int))(e:(0:Int)≤i64.wrap (u64.wrap ((u64.wrap ((u64.wrap ((0:Int)-u64.wrap n)).tdiv (16777216:Int))).tdiv (16777216:Int)))∧i64.wrap (u64.wrap ((u64.wrap ((u64.wrap ((0:Int)-u64.wrap n)).tdiv (16777216:Int))).tdiv (16777216:Int)))<(16777216:Int))(o7:[MV.cv (CV.lit (Value.int i64 (i64.wrap ((u64.wrap ((0:Int)-u64.wrap n)).tmod (16777216:Int))))),MV.cv (CV.lit (Value.int i64 (i64.wrap ((u64.wrap ((u64.wrap ((0:Int)-u64.wrap n)).tdiv (16777216:Int))).tmod (16777216:Int))))),MV.cv (CV.lit (Value.int i64 (i64.wrap (u64.wrap ((u64.wrap ((u64.wrap ((0:Int)-u64.wrap n)).tdiv (16777216:Int))).tdiv (16777216:Int))))))]=[MV.cv (CV.lit (Value.int i64 (i64.wrap ((u64.wrap ((0:Int)-u64.wrap n)).tmod (16777216:Int))))),MV.cv (CV.lit (Value.int i64 (i64.wrap ((u64.wrap ((u64.wrap ((0:Int)-u64.wrap n)).tdiv (16777216:Int))).tmod (16777216:Int))))),MV.cv (CV.lit (Value.int i64 (i64.wrap (u64.wrap ((u64.wrap ((u64.wrap ((0:Int)-u64.wrap n)).tdiv (16777216:Int))).tdiv (16777216:Int))))))]):PCall P (37:FuncId) [J1 n] (CV.agg [CV.lit (Value.bool (decide ((if decide (n<(0:Int))=true then-(i64.wrap ((u64.wrap ((0:Int)-u64.wrap n)).tmod (16777216:Int))+(16777216:Int)*(i64.wrap ((u64.wrap ((u64.wrap ((0:Int)-u64.wrap n)).tdiv (16777216:Int))).tmod (16777216:Int))+(16777216:Int)*i64.wrap (u64.wrap ((u64.wrap ((u64.wrap ((0:Int)-u64.wrap n)).tdiv (16777216:Int))).tdiv (16777216:Int)))))else i64.wrap ((u64.wrap ((0:Int)-u64.wrap n)).tmod (16777216:Int))+(16777216:Int)*(i64.wrap ((u64.wrap ((u64.wrap ((0:Int)-u64.wrap n)).tdiv (16777216:Int))).tmod (16777216:Int))+(16777216:Int)*i64.wrap (u64.wrap ((u64.wrap ((u64.wrap ((0:Int)-u64.wrap n)).tdiv (16777216:Int))).tdiv (16777216:Int)))))<(0:Int)))),CV.lit (Value.string (bytesOf (if decide (n<(0:Int))=true then-(i64.wrap ((u64.wrap ((0:Int)-u64.wrap n)).tmod (16777216:Int))+(16777216:Int)*(i64.wrap ((u64.wrap ((u64.wrap ((0:Int)-u64.wrap n)).tdiv (16777216:Int))).tmod (16777216:Int))+(16777216:Int)*i64.wrap (u64.wrap ((u64.wrap ((u64.wrap ((0:Int)-u64.wrap n)).tdiv (16777216:Int))).tdiv (16777216:Int)))))else i64.wrap ((u64.wrap ((0:Int)-u64.wrap n)).tmod (16777216:Int))+(16777216:Int)*(i64.wrap ((u64.wrap ((u64.wrap ((0:Int)-u64.wrap n)).tdiv (16777216:Int))).tmod (16777216:Int))+(16777216:Int)*i64.wrap (u64.wrap ((u64.wrap ((u64.wrap ((0:Int)-u64.wrap n)).tdiv (16777216:Int))).tdiv (16777216:Int))))).natAbs))]):=
 j3 (.b 6 h1 (.c (show(16777216:Int)≠(0:Int)from(by decide)) (.c (show(16777216:Int)≠(0:Int)from(by decide)) (.c (show(16777216:Int)≠(0:Int)from(by decide)) (.c (show(16777216:Int)≠(0:Int)from(by decide)) (.c (show(16777216:Int)≠(0:Int)from(by decide)) (.c (zha (decide (n<(0:Int))) (i64.wrap ((u64.wrap ((0:Int)-u64.wrap n)).tmod (16777216:Int))) (i64.wrap ((u64.wrap ((u64.wrap ((0:Int)-u64.wrap n)).tdiv (16777216:Int))).tmod (16777216:Int))) (i64.wrap (u64.wrap ((u64.wrap ((u64.wrap ((0:Int)-u64.wrap n)).tdiv (16777216:Int))).tdiv (16777216:Int)))) a d e) (.c o7 (.c (show 2≤2 from(by decide)) (.o 24 (Or.k (CV.agg [CV.lit (Value.bool (decide ((if decide (n<(0:Int))=true then-(i64.wrap ((u64.wrap ((0:Int)-u64.wrap n)).tmod (16777216:Int))+(16777216:Int)*(i64.wrap ((u64.wrap ((u64.wrap ((0:Int)-u64.wrap n)).tdiv (16777216:Int))).tmod (16777216:Int))+(16777216:Int)*i64.wrap (u64.wrap ((u64.wrap ((u64.wrap ((0:Int)-u64.wrap n)).tdiv (16777216:Int))).tdiv (16777216:Int)))))else i64.wrap ((u64.wrap ((0:Int)-u64.wrap n)).tmod (16777216:Int))+(16777216:Int)*(i64.wrap ((u64.wrap ((u64.wrap ((0:Int)-u64.wrap n)).tdiv (16777216:Int))).tmod (16777216:Int))+(16777216:Int)*i64.wrap (u64.wrap ((u64.wrap ((u64.wrap ((0:Int)-u64.wrap n)).tdiv (16777216:Int))).tdiv (16777216:Int)))))<(0:Int)))),CV.lit (Value.string (bytesOf (if decide (n<(0:Int))=true then-(i64.wrap ((u64.wrap ((0:Int)-u64.wrap n)).tmod (16777216:Int))+(16777216:Int)*(i64.wrap ((u64.wrap ((u64.wrap ((0:Int)-u64.wrap n)).tdiv (16777216:Int))).tmod (16777216:Int))+(16777216:Int)*i64.wrap (u64.wrap ((u64.wrap ((u64.wrap ((0:Int)-u64.wrap n)).tdiv (16777216:Int))).tdiv (16777216:Int)))))else i64.wrap ((u64.wrap ((0:Int)-u64.wrap n)).tmod (16777216:Int))+(16777216:Int)*(i64.wrap ((u64.wrap ((u64.wrap ((0:Int)-u64.wrap n)).tdiv (16777216:Int))).tmod (16777216:Int))+(16777216:Int)*i64.wrap (u64.wrap ((u64.wrap ((u64.wrap ((0:Int)-u64.wrap n)).tdiv (16777216:Int))).tdiv (16777216:Int))))).natAbs))]) [[CV.lit (Value.int i64 (i64.wrap ((u64.wrap ((0:Int)-u64.wrap n)).tmod (16777216:Int)))),CV.lit (Value.int i64 (i64.wrap ((u64.wrap ((u64.wrap ((0:Int)-u64.wrap n)).tdiv (16777216:Int))).tmod (16777216:Int)))),CV.lit (Value.int i64 (i64.wrap (u64.wrap ((u64.wrap ((u64.wrap ((0:Int)-u64.wrap n)).tdiv (16777216:Int))).tdiv (16777216:Int)))))]]) .nil)))))))))) (by kernel_rfl)
theorem zg9(n:Int)(h1:decide (n<(0:Int))=false)(a:(0:Int)≤i64.wrap ((u64.wrap n).tmod (16777216:Int))∧i64.wrap ((u64.wrap n).tmod (16777216:Int))<(16777216:Int))(d:(0:Int)≤i64.wrap ((u64.wrap ((u64.wrap n).tdiv (16777216:Int))).tmod (16777216:Int))∧i64.wrap ((u64.wrap ((u64.wrap n).tdiv (16777216:Int))).tmod (16777216:Int))<(16777216:Int))(e:(0:Int)≤i64.wrap (u64.wrap ((u64.wrap ((u64.wrap n).tdiv (16777216:Int))).tdiv (16777216:Int)))∧i64.wrap (u64.wrap ((u64.wrap ((u64.wrap n).tdiv (16777216:Int))).tdiv (16777216:Int)))<(16777216:Int))(o7:[MV.cv (CV.lit (Value.int i64 (i64.wrap ((u64.wrap n).tmod (16777216:Int))))),MV.cv (CV.lit (Value.int i64 (i64.wrap ((u64.wrap ((u64.wrap n).tdiv (16777216:Int))).tmod (16777216:Int))))),MV.cv (CV.lit (Value.int i64 (i64.wrap (u64.wrap ((u64.wrap ((u64.wrap n).tdiv (16777216:Int))).tdiv (16777216:Int))))))]=[MV.cv (CV.lit (Value.int i64 (i64.wrap ((u64.wrap n).tmod (16777216:Int))))),MV.cv (CV.lit (Value.int i64 (i64.wrap ((u64.wrap ((u64.wrap n).tdiv (16777216:Int))).tmod (16777216:Int))))),MV.cv (CV.lit (Value.int i64 (i64.wrap (u64.wrap ((u64.wrap ((u64.wrap n).tdiv (16777216:Int))).tdiv (16777216:Int))))))]):PCall P (37:FuncId) [J1 n] (CV.agg [CV.lit (Value.bool (decide ((if decide (n<(0:Int))=true then-(i64.wrap ((u64.wrap n).tmod (16777216:Int))+(16777216:Int)*(i64.wrap ((u64.wrap ((u64.wrap n).tdiv (16777216:Int))).tmod (16777216:Int))+(16777216:Int)*i64.wrap (u64.wrap ((u64.wrap ((u64.wrap n).tdiv (16777216:Int))).tdiv (16777216:Int)))))else i64.wrap ((u64.wrap n).tmod (16777216:Int))+(16777216:Int)*(i64.wrap ((u64.wrap ((u64.wrap n).tdiv (16777216:Int))).tmod (16777216:Int))+(16777216:Int)*i64.wrap (u64.wrap ((u64.wrap ((u64.wrap n).tdiv (16777216:Int))).tdiv (16777216:Int)))))<(0:Int)))),CV.lit (Value.string (bytesOf (if decide (n<(0:Int))=true then-(i64.wrap ((u64.wrap n).tmod (16777216:Int))+(16777216:Int)*(i64.wrap ((u64.wrap ((u64.wrap n).tdiv (16777216:Int))).tmod (16777216:Int))+(16777216:Int)*i64.wrap (u64.wrap ((u64.wrap ((u64.wrap n).tdiv (16777216:Int))).tdiv (16777216:Int)))))else i64.wrap ((u64.wrap n).tmod (16777216:Int))+(16777216:Int)*(i64.wrap ((u64.wrap ((u64.wrap n).tdiv (16777216:Int))).tmod (16777216:Int))+(16777216:Int)*i64.wrap (u64.wrap ((u64.wrap ((u64.wrap n).tdiv (16777216:Int))).tdiv (16777216:Int))))).natAbs))]):=
 j3 (.b 6 h1 (.c (show(16777216:Int)≠(0:Int)from(by decide)) (.c (show(16777216:Int)≠(0:Int)from(by decide)) (.c (show(16777216:Int)≠(0:Int)from(by decide)) (.c (show(16777216:Int)≠(0:Int)from(by decide)) (.c (show(16777216:Int)≠(0:Int)from(by decide)) (.c (zha (decide (n<(0:Int))) (i64.wrap ((u64.wrap n).tmod (16777216:Int))) (i64.wrap ((u64.wrap ((u64.wrap n).tdiv (16777216:Int))).tmod (16777216:Int))) (i64.wrap (u64.wrap ((u64.wrap ((u64.wrap n).tdiv (16777216:Int))).tdiv (16777216:Int)))) a d e) (.c o7 (.c (show 2≤2 from(by decide)) (.o 21 (Or.k (CV.agg [CV.lit (Value.bool (decide ((if decide (n<(0:Int))=true then-(i64.wrap ((u64.wrap n).tmod (16777216:Int))+(16777216:Int)*(i64.wrap ((u64.wrap ((u64.wrap n).tdiv (16777216:Int))).tmod (16777216:Int))+(16777216:Int)*i64.wrap (u64.wrap ((u64.wrap ((u64.wrap n).tdiv (16777216:Int))).tdiv (16777216:Int)))))else i64.wrap ((u64.wrap n).tmod (16777216:Int))+(16777216:Int)*(i64.wrap ((u64.wrap ((u64.wrap n).tdiv (16777216:Int))).tmod (16777216:Int))+(16777216:Int)*i64.wrap (u64.wrap ((u64.wrap ((u64.wrap n).tdiv (16777216:Int))).tdiv (16777216:Int)))))<(0:Int)))),CV.lit (Value.string (bytesOf (if decide (n<(0:Int))=true then-(i64.wrap ((u64.wrap n).tmod (16777216:Int))+(16777216:Int)*(i64.wrap ((u64.wrap ((u64.wrap n).tdiv (16777216:Int))).tmod (16777216:Int))+(16777216:Int)*i64.wrap (u64.wrap ((u64.wrap ((u64.wrap n).tdiv (16777216:Int))).tdiv (16777216:Int)))))else i64.wrap ((u64.wrap n).tmod (16777216:Int))+(16777216:Int)*(i64.wrap ((u64.wrap ((u64.wrap n).tdiv (16777216:Int))).tmod (16777216:Int))+(16777216:Int)*i64.wrap (u64.wrap ((u64.wrap ((u64.wrap n).tdiv (16777216:Int))).tdiv (16777216:Int))))).natAbs))]) [[CV.lit (Value.int i64 (i64.wrap ((u64.wrap n).tmod (16777216:Int)))),CV.lit (Value.int i64 (i64.wrap ((u64.wrap ((u64.wrap n).tdiv (16777216:Int))).tmod (16777216:Int)))),CV.lit (Value.int i64 (i64.wrap (u64.wrap ((u64.wrap ((u64.wrap n).tdiv (16777216:Int))).tdiv (16777216:Int)))))]]) .nil)))))))))) (by kernel_rfl)
theorem z5w {U : Int} (h : 0 ≤ U ∧ U ≤ 9223372036854775808) : i64.wrap (U.tmod 16777216) = U % 16777216 ∧ u64.wrap (U.tdiv 16777216) = U / 16777216 ∧ i64.wrap ((U / 16777216).tmod 16777216) = U / 16777216 % 16777216 ∧
    i64.wrap (u64.wrap ((U/16777216).tdiv 16777216))=U/16777216/16777216:=by
 rw[Int.tmod_eq_emod_of_nonneg h.1,Int.tdiv_eq_ediv_of_nonneg h.1,Int.tmod_eq_emod_of_nonneg (by omega),Int.tdiv_eq_ediv_of_nonneg (by omega),z12,z12,w64 (by omega),w64 (by omega),w64 (by omega)]
 omega
theorem z6V(n:Int)(h: -9223372036854775808≤n∧n≤9223372036854775807):PCall P 37 [J1 n] (Q2 n):=by
 cases h1:decide (n<0)with
 |true=>
  have h1':=of_decide_eq_true h1
  have hu:u64.wrap (0-u64.wrap n)= -n:=by rw[z12,z12];omega
  obtain⟨d1,d2,d3,d4⟩:=z5w (U:= -n) (by omega)
  refine(zfu n h1 (by rw[hu,d1];omega) (by rw[hu,d2,d3];omega) (by rw[hu,d2,d4];omega) rfl).eq ?_
  rw[hu,d1,d2,d3,d4]
  show Q2 _=Q2 n
  congr 1
  rw[if_pos (by simpa using h1')];omega
 |false=>
  have h1':=of_decide_eq_false h1
  have hu:u64.wrap n=n:=by rw[z12];omega
  obtain⟨d1,d2,d3,d4⟩:=z5w (U:=n) (by omega)
  refine(zg9 n h1 (by rw[hu,d1];omega) (by rw[hu,d2,d3];omega) (by rw[hu,d2,d4];omega) rfl).eq ?_
  rw[hu,d1,d2,d3,d4]
  show Q2 _=Q2 n
  congr 1
  rw[if_neg (by simpa using h1')];omega
theorem z0o{n k:Nat}:(bytesOf n).size≤k↔n<256^k:=by rw[z18];exact z6x (by decide)
theorem Ps.app{a b:List Prop}(ha:Ps a)(hb:Ps b):Ps (a++b):=by
 induction ha with
 |nil=>exact hb
 |cons h t ih=>exact .cons h ih
section
variable(B:Nat→Bool)(S:Nat→ByteArray)(W:Nat→Int)
end
def zOf(b:Bool)(s:ByteArray):Int:=if b then-(Y5 s:Int)else Y5 s
section
variable{B:Nat→Bool}{S:Nat→ByteArray}
def zhr(B:Nat→Bool)(S:Nat→ByteArray)(i:Nat):Prop:=(S i).size≤3∧Q0 (B i) (S i)=true
end
theorem zdm(a b:Int)(d:SmlZ a)(e:SmlZ (-b))(f:Sml (a.natAbs+(-b).natAbs)):PCall P 31 [Q2 a,Q2 b] (.agg [.lit (.bool (decide (a+ -b<0))),.lit (.string (bytesOf (a+ -b).natAbs))]):=
 j3 (.r 4 (J3 a) (.r 8 (J3 b) (.r 14 (z03 b) (.r 15 (z0Q a (-b) d e f) (.c (show 2≤2 from by decide) .nil))))) (by kernel_rfl)
theorem zdh(a b:Int)(c:Sml a.natAbs)(d:Sml b.natAbs){R:CV→Prop}(hR:Ok P 65 (loopHead P 65 0) ⟨J6 65 [(4,.ptr 0 0),(5,.cv (.lst (dig 4294967296 a.natAbs).length (j0 (dig 4294967296 a.natAbs)))),(6,.cv (.lst (dig 4294967296 b.natAbs).length (j0 (dig 4294967296 b.natAbs))))],[some [.cv (.lit (.bool false)),.cv (.lit (.string {data:= #[]}))]]⟩ (.of R)):W9 P 65 [Q2 a,Q2 b] R:=
 W7 (keep:=[4,5,6]) (σ:=[2]) (.r 4 (J3 a) (.r 8 (J3 b) (.r 14 (V0 a.natAbs c) (.r 17 (V0 b.natAbs d) (.o 20 .stop .nil))))) (by kernel_rfl) rfl hR (.cons (by simp[CvL]) .nil)
theorem zdb(x y:Nat)(h1:decide ((↑(dig B32 y).length:Int)>2)=true)(a:y≠0)(c:(dig 4294967296 x).length<2^38)(d:(dig 4294967296 y).length<2^38){R:Goal}(hn:j7 R.n [0]=true)(hR:Ok P 65 (loopHead P 65 0) ⟨J6 65 [(4,.ptr 0 0),(5,.cv (.lst (dig 4294967296 y).length (j0 (dig 4294967296 y)))),(6,.cv (.lst (dig 4294967296 (x%y)).length (j0 (dig 4294967296 (x%y)))))],[some [.cv (.lit (.bool false)),.cv (.lit (.string {data:= #[]}))]]⟩ R):Ok P 65 (loopHead P 65 0) ({tm:=J6 65 [(4,.ptr 0 0),(5,.cv (X5 x)),(6,.cv (X5 y))],hp:=[some [.cv (.lit (.bool false)),.cv (.lit (.string {data:= #[]}))]]}) R:=
 z39 (keep:=[4,5,6]) (σ:=[0]) (.b 4 h1 (.r 17 (z1L x y a c d) (.o 27 .stop .nil))) (by kernel_rfl) rfl hn hR (.cons (by simp[CvL]) .nil)
theorem zc4(x y:Nat)(h1:decide ((↑(dig B32 y).length:Int)>2)=false)(h2:decide ((↑(dig B32 x).length:Int)>2)=true)(h3:decide ((↑(dig B32 y).length:Int)>0)=true)(a:y≠0)(c:(dig 4294967296 x).length<2^38)(d:(dig 4294967296 y).length<2^38){R:Goal}(hn:j7 R.n [0]=true)(hR:Ok P 65 (loopHead P 65 0) ⟨J6 65 [(4,.ptr 0 0),(5,.cv (.lst (dig 4294967296 y).length (j0 (dig 4294967296 y)))),(6,.cv (.lst (dig 4294967296 (x%y)).length (j0 (dig 4294967296 (x%y)))))],[some [.cv (.lit (.bool false)),.cv (.lit (.string {data:= #[]}))]]⟩ R):Ok P 65 (loopHead P 65 0) ({tm:=J6 65 [(4,.ptr 0 0),(5,.cv (X5 x)),(6,.cv (X5 y))],hp:=[some [.cv (.lit (.bool false)),.cv (.lit (.string {data:= #[]}))]]}) R:=
 z39 (keep:=[4,5,6]) (σ:=[0]) (.b 4 h1 (.b 8 h2 (.b 14 h3 (.r 17 (z1L x y a c d) (.o 27 .stop .nil))))) (by kernel_rfl) rfl hn hR (.cons (by simp[CvL]) .nil)
theorem zdH(x y:Nat)(h1:decide ((↑(dig B32 y).length:Int)>2)=false)(h2:decide ((↑(dig B32 x).length:Int)>2)=true)(h3:decide ((↑(dig B32 y).length:Int)>0)=false)(h4:((↑(dig 4294967296 y).length:Int)==0)=true)(a:Sml x){R:Goal}(hR:R.c (.agg [.lit (.bool (decide (sgn false x<0))),.lit (.string (bytesOf (sgn false x).natAbs))])):Ok P 65 (loopHead P 65 0) ({tm:=J6 65 [(4,.ptr 0 0),(5,.cv (X5 x)),(6,.cv (X5 y))],hp:=[some [.cv (.lit (.bool false)),.cv (.lit (.string {data:= #[]}))]]}) R:=
 okT (.b 4 h1 (.b 8 h2 (.b 14 h3 (.b 18 h4 (.r 20 (U0 x false a) (.c (show 2≤2 from by decide) .nil)))))) (by kernel_rfl) hR
theorem zc9(x y:Nat)(h1:decide ((↑(dig B32 y).length:Int)>2)=false)(h2:decide ((↑(dig B32 x).length:Int)>2)=false)(h3:((↑(dig 4294967296 y).length:Int)==0)=true)(a:Sml x){R:Goal}(hR:R.c (.agg [.lit (.bool (decide (sgn false x<0))),.lit (.string (bytesOf (sgn false x).natAbs))])):Ok P 65 (loopHead P 65 0) ({tm:=J6 65 [(4,.ptr 0 0),(5,.cv (X5 x)),(6,.cv (X5 y))],hp:=[some [.cv (.lit (.bool false)),.cv (.lit (.string {data:= #[]}))]]}) R:=
 okT (.b 4 h1 (.b 8 h2 (.b 18 h3 (.r 20 (U0 x false a) (.c (show 2≤2 from by decide) .nil))))) (by kernel_rfl) hR
theorem zd9(x y:Nat)(h1:decide ((↑(dig B32 y).length:Int)>2)=false)(h2:decide ((↑(dig B32 x).length:Int)>2)=false)(h3:((↑(dig 4294967296 y).length:Int)==0)=false)(a:x<18446744073709551616)(c:y<18446744073709551616){R:Goal}(hn:j7 R.n [0]=true)(hR:Ok P 65 (loopHead P 65 1) ⟨J6 65 [(4,.ptr 0 0),(9,.cv (.lit (.int .u64 (x:Int)))),(10,.cv (.lit (.int .u64 (y:Int))))],[some [.cv (.lit (.bool false)),.cv (.lit (.string {data:= #[]}))]]⟩ R):Ok P 65 (loopHead P 65 0) ({tm:=J6 65 [(4,.ptr 0 0),(5,.cv (X5 x)),(6,.cv (X5 y))],hp:=[some [.cv (.lit (.bool false)),.cv (.lit (.string {data:= #[]}))]]}) R:=
 z39 (keep:=[4,9,10]) (σ:=[0]) (.b 4 h1 (.b 8 h2 (.b 18 h3 (.r 20 (z3T x a) (.r 22 (z3T y c) (.o 25 .stop .nil)))))) (by kernel_rfl) rfl hn hR (.cons (by simp[CvL]) .nil)
theorem ze8(n m:Nat)(h1:((m:Int) != 0)=true)(o1:(m:Int)≠0){R:Goal}(hn:j7 R.n [0]=true)(hR:Ok P 65 (loopHead P 65 1) ⟨J6 65 [(4,.ptr 0 0),(9,.cv (.lit (.int .u64 (m:Int)))),(10,.cv (.lit (.int .u64 ((n:Int).tmod (m:Int)))))],[some [.cv (.lit (.bool false)),.cv (.lit (.string {data:= #[]}))]]⟩ R):Ok P 65 (loopHead P 65 1) ({tm:=J6 65 [(4,.ptr 0 0),(9,.cv (.lit (.int .u64 (n:Int)))),(10,.cv (.lit (.int .u64 (m:Int))))],hp:=[some [.cv (.lit (.bool false)),.cv (.lit (.string {data:= #[]}))]]}) R:=
 z39 (keep:=[4,9,10]) (σ:=[0]) (.b 3 h1 (.c o1 (.o 10 .stop .nil))) (by kernel_rfl) rfl hn hR (.cons (by simp[CvL]) .nil)
theorem zcK(n m:Nat)(h1:((m:Int) != 0)=false)(a:(0:Int)≤n)(d:(n:Int)<18446744073709551616)(e:Sml (n:Int).toNat){R:Goal}(hR:R.c (.agg [.lit (.bool (decide (sgn false (n:Int).toNat<0))),.lit (.string (bytesOf (sgn false (n:Int).toNat).natAbs))])):Ok P 65 (loopHead P 65 1) ({tm:=J6 65 [(4,.ptr 0 0),(9,.cv (.lit (.int .u64 (n:Int)))),(10,.cv (.lit (.int .u64 (m:Int))))],hp:=[some [.cv (.lit (.bool false)),.cv (.lit (.string {data:= #[]}))]]}) R:=
 okT (.b 3 h1 (.r 5 (z5k (n:Int) a d) (.r 6 (U0 ((n:Int).toNat) false e) (.c (show 2≤2 from by decide) .nil)))) (by kernel_rfl) hR
theorem z74(a b:Int)(ha:SmlZ a)(hb:SmlZ b)(hs:Sml (a.natAbs+b.natAbs)):PCall P 31 [Q2 a,Q2 b] (Q2 (a-b)):=by
 have:=zdm a b ha (by simpa[SmlZ]using hb) (by simpa using hs)
 rw[Int.sub_eq_add_neg];exact this
theorem z3P(n:Nat):sgn false n=(n:Int):=by simp[sgn]
theorem z8X {R : Goal} (hn : j7 R.n [0] = true) : ∀ (m n : Nat), n < 18446744073709551616 → m < 18446744073709551616 → R.c (Q2 (Nat.gcd n m : Nat)) →
    Ok P 65 (loopHead P 65 1) ⟨J6 65 [(4,.ptr 0 0),(9,.cv (.lit (.int .u64 n))),(10,.cv (.lit (.int .u64 m)))],[some [.cv (.lit (.bool false)),.cv (.lit (.string ⟨#[]⟩))]]⟩ R:=by
 intro m
 induction m using Nat.strongRecOn with
 |_ m ih=>
  intro n hn1 hm1 hR
  by_cases h:m=0
  · subst h
    rw[Nat.gcd_zero_right]at hR
    refine zcK n 0 (by rfl) (by omega) (by omega) (z1s (by simpa using hn1)) ?_
    rw[Int.toNat_natCast,z3P];exact hR
  · have e:((n:Int)).tmod (m:Int)=((n%m:Nat):Int):=by rw[Int.tmod_eq_emod_of_nonneg (by omega),←Int.natCast_emod]
    have hlt:=Nat.mod_lt n (by omega:0<m)
    refine ze8 n m (by simpa using h) (by omega) hn ?_
    rw[e]
    refine ih (n%m) hlt m hm1 (by omega) ?_
    have:Nat.gcd m (n%m)=Nat.gcd n m:=by rw[Nat.gcd_comm n m,Nat.gcd_rec m n,Nat.gcd_comm]
    rw[this];exact hR
theorem z5T{x:Nat}(h:(dig B32 x).length≤2):x<18446744073709551616:=by
 have:=(J7 (by decide:2≤B32) x)
 have h2:B32^(dig B32 x).length≤B32^2:=Nat.pow_le_pow_right (by decide) h
 have h3:B32^2=18446744073709551616:=rfl
 omega
theorem zbn {R : Goal} (hn : j7 R.n [0] = true) : ∀ (y x : Nat), Sml x → Sml y → R.c (Q2 (Nat.gcd x y : Nat)) →
    Ok P 65 (loopHead P 65 0) ⟨J6 65 [(4,.ptr 0 0),(5,.cv (X5 x)),(6,.cv (X5 y))],[some [.cv (.lit (.bool false)),.cv (.lit (.string ⟨#[]⟩))]]⟩ R:=by
 intro y
 induction y using Nat.strongRecOn with
 |_ y ih=>
  intro x hx hy hR
  have hlx:=hx.dig32
  have hly:=hy.dig32
  have hstep:y≠0→R.c (Q2 (Nat.gcd y (x%y):Nat))∧x%y<y:=by
   intro h
   refine⟨?_,Nat.mod_lt _ (by omega)⟩
   have:Nat.gcd y (x%y)=Nat.gcd x y:=by rw[Nat.gcd_comm x y,Nat.gcd_rec y x,Nat.gcd_comm]
   rw[this];exact hR
  by_cases h1:2<(dig B32 y).length
  · have hy0:y≠0:=by intro e;subst e;simp[z1y]at h1
    obtain⟨g1,g2⟩:=hstep hy0
    exact zdb x y (by simp;omega) hy0 (by simp only[B32]at*;omega) (by simp only[B32]at*;omega) hn (ih _ g2 y hy (hy.mono (by omega)) g1)
  · by_cases h2:2<(dig B32 x).length
    · by_cases h3:0<(dig B32 y).length
      · have hy0:y≠0:=by intro e;subst e;simp[z1y]at h3
        obtain⟨g1,g2⟩:=hstep hy0
        exact zc4 x y (by simp;omega) (by simp;omega) (by simp;omega) hy0 (by simp only[B32]at*;omega) (by simp only[B32]at*;omega) hn (ih _ g2 y hy (hy.mono (by omega)) g1)
      · have hy0:y=0:=(Y1 (by decide:2≤B32)).1 (by omega)
        subst hy0
        rw[Nat.gcd_zero_right]at hR
        refine zdH x 0 (by rfl) (by simp;omega) (by rfl) (by rfl) hx ?_
        rw[z3P];exact hR
    · by_cases h3:(dig B32 y).length=0
      · have hy0:y=0:=(Y1 (by decide:2≤B32)).1 h3
        subst hy0
        rw[Nat.gcd_zero_right]at hR
        refine zc9 x 0 (by rfl) (by simp;omega) (by rfl) hx ?_
        rw[z3P];exact hR
      · have k1:=z5T (x:=x) (by omega)
        have k2:=z5T (x:=y) (by omega)
        exact zd9 x y (by simp;omega) (by simp;omega) (by rw[beq_eq_false_iff_ne];simp only[B32]at h3;omega) k1 k2 hn (z8X hn y x k1 k2 hR)
theorem z3b(a b:Int)(ha:SmlZ a)(hb:SmlZ b):PCall P 65 [Q2 a,Q2 b] (Q2 (Nat.gcd a.natAbs b.natAbs:Nat)):=
 zdh a b ha hb (zbn (R:= .of (fun x=>x=Q2 (Nat.gcd a.natAbs b.natAbs:Nat))) rfl b.natAbs a.natAbs ha hb rfl)
end Go.Fw
set_option maxRecDepth 10000
namespace Go.Fw
def Z3(a b c d e:Int):Nat:=Nat.gcd (Nat.gcd (Nat.gcd (Nat.gcd e.natAbs a.natAbs) b.natAbs) c.natAbs) d.natAbs
theorem z4Q(m a b c d e:Int):Z3 (m*a) (m*b) (m*c) (m*d) (m*e)=m.natAbs*Z3 a b c d e:=by
 simp only[Z3,Int.natAbs_mul,Nat.gcd_mul_left]
theorem za6(a b c d e:Int):(Z3 a b c d e:Int)∣a∧(Z3 a b c d e:Int)∣b∧(Z3 a b c d e:Int)∣c∧(Z3 a b c d e:Int)∣d∧(Z3 a b c d e:Int)∣e:=by
 have h4:Z3 a b c d e∣Nat.gcd (Nat.gcd (Nat.gcd e.natAbs a.natAbs) b.natAbs) c.natAbs:=Nat.gcd_dvd_left _ _
 have h3:=Nat.dvd_trans h4 (Nat.gcd_dvd_left _ _)
 have h2:=Nat.dvd_trans h3 (Nat.gcd_dvd_left _ _)
 refine⟨?_,?_,?_,?_,?_⟩<;>rw[Int.ofNat_dvd_left]
 · exact Nat.dvd_trans h2 (Nat.gcd_dvd_right _ _)
 · exact Nat.dvd_trans h3 (Nat.gcd_dvd_right _ _)
 · exact Nat.dvd_trans h4 (Nat.gcd_dvd_right _ _)
 · exact Nat.gcd_dvd_right _ _
 · exact Nat.dvd_trans h2 (Nat.gcd_dvd_left _ _)
theorem z3q{a b c d e:Int}(h:e≠0):0<Z3 a b c d e:=by
 have h1:0<e.natAbs:=by omega
 exact Nat.gcd_pos_of_pos_left _ (Nat.gcd_pos_of_pos_left _ (Nat.gcd_pos_of_pos_left _ (Nat.gcd_pos_of_pos_left _ h1)))
structure K where
 c0:Int
 c1:Int
 c2:Int
 c3:Int
 d:Int
 pos:0<d
 cop:Z3 c0 c1 c2 c3 d=1
namespace K
theorem ext{x y:K}(h0:x.c0=y.c0)(h1:x.c1=y.c1)(h2:x.c2=y.c2)(h3:x.c3=y.c3)(hd:x.d=y.d):x=y:=by
 cases x;cases y;simp only at h0 h1 h2 h3 hd;subst h0 h1 h2 h3 hd;rfl
theorem d_ne(x:K):x.d≠0:=Int.ne_of_gt x.pos
instance:DecidableEq K:=fun x y=>
 if h:x.c0=y.c0∧x.c1=y.c1∧x.c2=y.c2∧x.c3=y.c3∧x.d=y.d then isTrue (ext h.1 h.2.1 h.2.2.1 h.2.2.2.1 h.2.2.2.2)
 else isFalse fun e=>h (by subst e;exact⟨rfl,rfl,rfl,rfl,rfl⟩)
def den(c0 c1 c2 c3 d:Int):Int:=if d<0 then-(Z3 c0 c1 c2 c3 d:Int)else(Z3 c0 c1 c2 c3 d:Int)
theorem den_dvd(c0 c1 c2 c3 d:Int):den c0 c1 c2 c3 d∣c0∧den c0 c1 c2 c3 d∣c1∧den c0 c1 c2 c3 d∣c2∧den c0 c1 c2 c3 d∣c3∧den c0 c1 c2 c3 d∣d:=by
 have:=za6 c0 c1 c2 c3 d
 unfold den
 split
 · simpa only[Int.neg_dvd]using this
 · exact this
theorem zbT{c0 c1 c2 c3 d:Int}(h:d≠0):den c0 c1 c2 c3 d≠0:=by
 have:=z3q (a:=c0) (b:=c1) (c:=c2) (d:=c3) h
 unfold den
 split<;>omega
theorem z7W(c0 c1 c2 c3 d:Int):(den c0 c1 c2 c3 d).natAbs=Z3 c0 c1 c2 c3 d:=by unfold den;split<;>omega
theorem zfo{c0 c1 c2 c3 d:Int}(h:d≠0):0<d/den c0 c1 c2 c3 d:=by
 obtain⟨k,hk⟩:=(den_dvd c0 c1 c2 c3 d).2.2.2.2
 have hne:=zbT (c0:=c0) (c1:=c1) (c2:=c2) (c3:=c3) h
 have e:d/den c0 c1 c2 c3 d=k:=by
  conv=>lhs;lhs;rw[hk]
  exact Int.mul_ediv_cancel_left _ hne
 rw[e]
 have hg:=z3q (a:=c0) (b:=c1) (c:=c2) (d:=c3) h
 by_cases hd:d<0
 · have hs:den c0 c1 c2 c3 d<0:=by unfold den;rw[if_pos hd];omega
   rcases Int.lt_trichotomy k 0 with hk0|hk0|hk0
   · have:=Int.mul_pos_of_neg_of_neg hs hk0;omega
   · subst hk0;simp at hk;omega
   · exact hk0
 · have hs:0<den c0 c1 c2 c3 d:=by unfold den;rw[if_neg hd];omega
   rcases Int.lt_trichotomy k 0 with hk0|hk0|hk0
   · have:=Int.mul_neg_of_pos_of_neg hs hk0;omega
   · subst hk0;simp at hk;omega
   · exact hk0
theorem zfJ{c0 c1 c2 c3 d:Int}(h:d≠0):Z3 (c0/den c0 c1 c2 c3 d) (c1/den c0 c1 c2 c3 d) (c2/den c0 c1 c2 c3 d) (c3/den c0 c1 c2 c3 d) (d/den c0 c1 c2 c3 d)=1:=by
 obtain⟨h0,h1,h2,h3,h4⟩:=den_dvd c0 c1 c2 c3 d
 have hg:=z4Q (den c0 c1 c2 c3 d) (c0/den c0 c1 c2 c3 d) (c1/den c0 c1 c2 c3 d) (c2/den c0 c1 c2 c3 d) (c3/den c0 c1 c2 c3 d) (d/den c0 c1 c2 c3 d)
 rw[Int.mul_ediv_cancel' h0,Int.mul_ediv_cancel' h1,Int.mul_ediv_cancel' h2,Int.mul_ediv_cancel' h3,Int.mul_ediv_cancel' h4,z7W]at hg
 have hp:=z3q (a:=c0) (b:=c1) (c:=c2) (d:=c3) h
 exact(Nat.eq_of_mul_eq_mul_left hp (by omega:Z3 c0 c1 c2 c3 d*1=_)).symm
def zero:K:=⟨0,0,0,0,1,by decide,by decide⟩
def one:K:=⟨1,0,0,0,1,by decide,by decide⟩
def of(c0 c1 c2 c3 d:Int):K:=
 if h:d=0 then zero else
 ⟨c0/den c0 c1 c2 c3 d,c1/den c0 c1 c2 c3 d,c2/den c0 c1 c2 c3 d,c3/den c0 c1 c2 c3 d,d/den c0 c1 c2 c3 d,zfo h,zfJ h⟩
theorem z09(c0 c1 c2 c3:Int){d:Int}(h:d≠0): ∃s:Int,s≠0∧c0=s*(of c0 c1 c2 c3 d).c0∧c1=s*(of c0 c1 c2 c3 d).c1∧c2=s*(of c0 c1 c2 c3 d).c2∧c3=s*(of c0 c1 c2 c3 d).c3∧d=s*(of c0 c1 c2 c3 d).d:=by
 obtain⟨h0,h1,h2,h3,h4⟩:=den_dvd c0 c1 c2 c3 d
 refine⟨den c0 c1 c2 c3 d,zbT h,?_⟩
 simp only[of,dif_neg h]
 exact⟨(Int.mul_ediv_cancel' h0).symm,(Int.mul_ediv_cancel' h1).symm,(Int.mul_ediv_cancel' h2).symm,(Int.mul_ediv_cancel' h3).symm,(Int.mul_ediv_cancel' h4).symm⟩
theorem cross{x y:K}(h0:x.c0*y.d=y.c0*x.d)(h1:x.c1*y.d=y.c1*x.d)(h2:x.c2*y.d=y.c2*x.d)(h3:x.c3*y.d=y.c3*x.d):x=y:=by
 have hx:=x.pos
 have hy:=y.pos
 have e1:=z4Q y.d x.c0 x.c1 x.c2 x.c3 x.d
 have e2:=z4Q x.d y.c0 y.c1 y.c2 y.c3 y.d
 rw[x.cop]at e1
 rw[y.cop]at e2
 rw[Int.mul_comm x.d y.c0,Int.mul_comm x.d y.c1,Int.mul_comm x.d y.c2,Int.mul_comm x.d y.c3,←h0,←h1,←h2,←h3,Int.mul_comm x.d y.d,Int.mul_comm x.c0,Int.mul_comm x.c1,Int.mul_comm x.c2,Int.mul_comm x.c3,e1]at e2
 have hd:x.d=y.d:=by omega
 have hc: ∀a b:Int,a*y.d=b*x.d→a=b:=by
  intro a b h
  rw[hd]at h
  exact Int.eq_of_mul_eq_mul_right y.d_ne h
 exact ext (hc _ _ h0) (hc _ _ h1) (hc _ _ h2) (hc _ _ h3) hd
theorem z5h(x:K):of x.c0 x.c1 x.c2 x.c3 x.d=x:=by
 obtain⟨s,hs,h0,h1,h2,h3,hd⟩:=z09 x.c0 x.c1 x.c2 x.c3 x.d_ne
 generalize of x.c0 x.c1 x.c2 x.c3 x.d=y at*
 apply cross
 · conv=>lhs;rw[hd]
   conv=>rhs;rw[h0]
   grind
 · conv=>lhs;rw[hd]
   conv=>rhs;rw[h1]
   grind
 · conv=>lhs;rw[hd]
   conv=>rhs;rw[h2]
   grind
 · conv=>lhs;rw[hd]
   conv=>rhs;rw[h3]
   grind
theorem zdU{a0 a1 a2 a3 d b0 b1 b2 b3 e:Int}(hd:d≠0)(he:e≠0)(h0:a0*e=b0*d)(h1:a1*e=b1*d)(h2:a2*e=b2*d)(h3:a3*e=b3*d):of a0 a1 a2 a3 d=of b0 b1 b2 b3 e:=by
 obtain⟨s,hs,x0,x1,x2,x3,xd⟩:=z09 a0 a1 a2 a3 hd
 obtain⟨t,ht,y0,y1,y2,y3,yd⟩:=z09 b0 b1 b2 b3 he
 generalize of a0 a1 a2 a3 d=x at*
 generalize of b0 b1 b2 b3 e=y at*
 have hst:s*t≠0:=Int.mul_ne_zero hs ht
 have key: ∀p q u v:Int,p=s*u→q=t*v→p*e=q*d→u*y.d=v*x.d:=by
  intro p q u v hp hq hpq
  rw[hp,hq,yd,xd]at hpq
  apply Int.eq_of_mul_eq_mul_left hst
  have e1:s*t*(u*y.d)=s*u*(t*y.d):=by grind
  have e2:s*t*(v*x.d)=t*v*(s*x.d):=by grind
  rw[e1,e2,hpq]
 exact cross (key _ _ _ _ x0 y0 h0) (key _ _ _ _ x1 y1 h1) (key _ _ _ _ x2 y2 h2) (key _ _ _ _ x3 y3 h3)
theorem z3e{s a0 a1 a2 a3 d:Int}(hs:s≠0)(hd:d≠0):of (s*a0) (s*a1) (s*a2) (s*a3) (s*d)=of a0 a1 a2 a3 d:=by
 apply zdU (Int.mul_ne_zero hs hd) hd<;>grind
def add(x y:K):K:=of (x.c0*y.d+y.c0*x.d) (x.c1*y.d+y.c1*x.d) (x.c2*y.d+y.c2*x.d) (x.c3*y.d+y.c3*x.d) (x.d*y.d)
def mul(x y:K):K:=of (x.c0*y.c0+2*x.c1*y.c1+3*x.c2*y.c2+6*x.c3*y.c3) (x.c0*y.c1+x.c1*y.c0+3*x.c2*y.c3+3*x.c3*y.c2)
 (x.c0*y.c2+x.c2*y.c0+2*x.c1*y.c3+2*x.c3*y.c1) (x.c0*y.c3+x.c3*y.c0+x.c1*y.c2+x.c2*y.c1) (x.d*y.d)
def neg(x:K):K:=⟨-x.c0,-x.c1,-x.c2,-x.c3,x.d,x.pos,by have:=x.cop;simpa only[Z3,Int.natAbs_neg]using this⟩
def ofInt(n:Int):K:=⟨n,0,0,0,1,by decide,by simp[Z3]⟩
instance:Add K:=⟨add⟩
instance:Mul K:=⟨mul⟩
instance:Neg K:=⟨neg⟩
instance:Sub K:=⟨fun x y=>x+ -y⟩
instance:OfNat K 0:=⟨zero⟩
instance:OfNat K 1:=⟨one⟩
instance:Inhabited K:=⟨zero⟩
theorem z2r{a0 a1 a2 a3 d b0 b1 b2 b3 e:Int}(hd:d≠0)(he:e≠0):of a0 a1 a2 a3 d+of b0 b1 b2 b3 e=of (a0*e+b0*d) (a1*e+b1*d) (a2*e+b2*d) (a3*e+b3*d) (d*e):=by
 obtain⟨s,hs,x0,x1,x2,x3,xd⟩:=z09 a0 a1 a2 a3 hd
 obtain⟨t,ht,y0,y1,y2,y3,yd⟩:=z09 b0 b1 b2 b3 he
 generalize of a0 a1 a2 a3 d=x at*
 generalize of b0 b1 b2 b3 e=y at*
 subst x0 x1 x2 x3 xd y0 y1 y2 y3 yd
 show add x y=_
 have:=z3e (s:=s*t) (a0:=x.c0*y.d+y.c0*x.d) (a1:=x.c1*y.d+y.c1*x.d) (a2:=x.c2*y.d+y.c2*x.d) (a3:=x.c3*y.d+y.c3*x.d) (d:=x.d*y.d) (Int.mul_ne_zero hs ht) (Int.mul_ne_zero x.d_ne y.d_ne)
 rw[add,←this]
 congr 1<;>grind
theorem z2p{a0 a1 a2 a3 d b0 b1 b2 b3 e:Int}(hd:d≠0)(he:e≠0):of a0 a1 a2 a3 d*of b0 b1 b2 b3 e=of (a0*b0+2*a1*b1+3*a2*b2+6*a3*b3) (a0*b1+a1*b0+3*a2*b3+3*a3*b2) (a0*b2+a2*b0+2*a1*b3+2*a3*b1) (a0*b3+a3*b0+a1*b2+a2*b1) (d*e):=by
 obtain⟨s,hs,x0,x1,x2,x3,xd⟩:=z09 a0 a1 a2 a3 hd
 obtain⟨t,ht,y0,y1,y2,y3,yd⟩:=z09 b0 b1 b2 b3 he
 generalize of a0 a1 a2 a3 d=x at*
 generalize of b0 b1 b2 b3 e=y at*
 subst x0 x1 x2 x3 xd y0 y1 y2 y3 yd
 show mul x y=_
 rw[mul,←z3e (s:=s*t) (Int.mul_ne_zero hs ht) (Int.mul_ne_zero x.d_ne y.d_ne)]
 congr 1<;>grind
theorem zfH{a0 a1 a2 a3 d:Int}(hd:d≠0): -of a0 a1 a2 a3 d=of (-a0) (-a1) (-a2) (-a3) d:=by
 obtain⟨s,hs,x0,x1,x2,x3,xd⟩:=z09 a0 a1 a2 a3 hd
 generalize of a0 a1 a2 a3 d=x at*
 subst x0 x1 x2 x3 xd
 show neg x=_
 conv=>lhs;rw[←z5h (neg x)]
 rw[←z3e hs (neg x).d_ne]
 simp only[neg]
 congr 1<;>grind
theorem z83(x:K): ∃a b c d e:Int,e≠0∧x=of a b c d e:=⟨_,_,_,_,_,x.d_ne,(z5h x).symm⟩
theorem z6p:(0:K)=of 0 0 0 0 1:=by decide
theorem zg6:(1:K)=of 1 0 0 0 1:=by decide
theorem z1t(n:Int):ofInt n=of n 0 0 0 1:=by rw[←z5h (ofInt n)];rfl
theorem add_comm(x y:K):x+y=y+x:=by
 show add x y=add y x
 simp only[add]
 congr 1<;>grind
theorem mul_comm(x y:K):x*y=y*x:=by
 show mul x y=mul y x
 simp only[mul]
 congr 1<;>grind
theorem add_assoc(x y z:K):x+y+z=x+(y+z):=by
 obtain⟨a0,a1,a2,a3,a,ha,rfl⟩:=z83 x
 obtain⟨b0,b1,b2,b3,b,hb,rfl⟩:=z83 y
 obtain⟨c0,c1,c2,c3,c,hc,rfl⟩:=z83 z
 rw[z2r ha hb,z2r hb hc,z2r (Int.mul_ne_zero ha hb) hc,z2r ha (Int.mul_ne_zero hb hc)]
 congr 1<;>grind
theorem mul_assoc(x y z:K):x*y*z=x*(y*z):=by
 obtain⟨a0,a1,a2,a3,a,ha,rfl⟩:=z83 x
 obtain⟨b0,b1,b2,b3,b,hb,rfl⟩:=z83 y
 obtain⟨c0,c1,c2,c3,c,hc,rfl⟩:=z83 z
 rw[z2p ha hb,z2p hb hc,z2p (Int.mul_ne_zero ha hb) hc,z2p ha (Int.mul_ne_zero hb hc)]
 congr 1<;>grind
theorem mul_add(x y z:K):x*(y+z)=x*y+x*z:=by
 obtain⟨a0,a1,a2,a3,a,ha,rfl⟩:=z83 x
 obtain⟨b0,b1,b2,b3,b,hb,rfl⟩:=z83 y
 obtain⟨c0,c1,c2,c3,c,hc,rfl⟩:=z83 z
 rw[z2r hb hc,z2p ha hb,z2p ha hc,z2p ha (Int.mul_ne_zero hb hc),z2r (Int.mul_ne_zero ha hb) (Int.mul_ne_zero ha hc)]
 rw[←z3e (s:=a) ha (Int.mul_ne_zero ha (Int.mul_ne_zero hb hc))]
 congr 1<;>grind
theorem zero_add(x:K):0+x=x:=by
 obtain⟨a0,a1,a2,a3,a,ha,rfl⟩:=z83 x
 rw[z6p,z2r (by decide) ha]
 congr 1<;>grind
theorem add_zero(x:K):x+0=x:=by rw[add_comm,zero_add]
theorem one_mul(x:K):1*x=x:=by
 obtain⟨a0,a1,a2,a3,a,ha,rfl⟩:=z83 x
 rw[zg6,z2p (by decide) ha]
 congr 1<;>grind
theorem add_neg(x:K):x+ -x=0:=by
 obtain⟨a0,a1,a2,a3,a,ha,rfl⟩:=z83 x
 rw[z6p,zfH ha,z2r ha ha]
 apply zdU (Int.mul_ne_zero ha ha) (by decide)<;>grind
theorem sub_eq(x y:K):x-y=x+ -y:=rfl
end K
end Go.Fw
