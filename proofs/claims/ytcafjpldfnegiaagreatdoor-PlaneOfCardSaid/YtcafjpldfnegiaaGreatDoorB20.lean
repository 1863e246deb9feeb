/- A part of the proof that the law returns true for every input: an executor for the model's code, and what functions of the program compute. -/
import Derived.Test.YtcafjpldfnegiaaGreatDoorB11
import Derived.Test.YtcafjpldfnegiaaGreatDoorB15
import Derived.Test.YtcafjpldfnegiaaGreatDoorB16
import Derived.Test.YtcafjpldfnegiaaGreatDoorB19
import Derived.KernelRfl
open Go
namespace Go.Fw
theorem RSg3 (b : Bool) (x y z : Int) (hx : 0 ≤ x ∧ x < 16777216) (hy : 0 ≤ y ∧ y < 16777216) (hz : 0 ≤ z ∧ z < 16777216) :
    PCall P 196 [.lit (.bool b),.lst 3 [j4 x,j4 y,j4 z]] (J5 (if b then-(x+16777216*(y+16777216*z))else x+16777216*(y+16777216*z))):=by
 have h1:x.toNat<16777216:=by omega
 have h2:y.toNat<16777216:=by omega
 have h3:z.toNat<16777216:=by omega
 have h:=z3h b 3 [x.toNat,y.toNat,z.toNat] rfl (by
  intro v hv
  simp only[List.mem_cons,List.not_mem_nil,or_false]at hv
  rcases hv with e|e|e<;>(rw[e];assumption)) (by show 3<2^40;decide)
 have e:j5 [x.toNat,y.toNat,z.toNat]=[j4 x,j4 y,j4 z]:=by
  simp only[j5,List.map_cons,List.map_nil,Int.toNat_of_nonneg hx.1,Int.toNat_of_nonneg hy.1,Int.toNat_of_nonneg hz.1]
 rw[e]at h
 refine h.eq ?_
 have ev:((val B24 [x.toNat,y.toNat,z.toNat]:Nat):Int)=x+16777216*(y+16777216*z):=by
  simp only[val,B24];omega
 rw[ev]
end Go.Fw
open Go
namespace Go.Fw
set_option maxRecDepth 100000
theorem zp6(n:Int)(h1:decide (n<(0:Int))=true)(s24_0:(0:Int)≤IntKind.i64.wrap ((IntKind.u64.wrap ((0:Int)-IntKind.u64.wrap n)).tmod (16777216:Int))∧IntKind.i64.wrap ((IntKind.u64.wrap ((0:Int)-IntKind.u64.wrap n)).tmod (16777216:Int))<(16777216:Int))(s24_1:(0:Int)≤IntKind.i64.wrap ((IntKind.u64.wrap ((IntKind.u64.wrap ((0:Int)-IntKind.u64.wrap n)).tdiv (16777216:Int))).tmod (16777216:Int))∧IntKind.i64.wrap ((IntKind.u64.wrap ((IntKind.u64.wrap ((0:Int)-IntKind.u64.wrap n)).tdiv (16777216:Int))).tmod (16777216:Int))<(16777216:Int))(s24_2:(0:Int)≤IntKind.i64.wrap (IntKind.u64.wrap ((IntKind.u64.wrap ((IntKind.u64.wrap ((0:Int)-IntKind.u64.wrap n)).tdiv (16777216:Int))).tdiv (16777216:Int)))∧IntKind.i64.wrap (IntKind.u64.wrap ((IntKind.u64.wrap ((IntKind.u64.wrap ((0:Int)-IntKind.u64.wrap n)).tdiv (16777216:Int))).tdiv (16777216:Int)))<(16777216:Int))(o7:[MV.cv (CV.lit (Value.int IntKind.i64 (IntKind.i64.wrap ((IntKind.u64.wrap ((0:Int)-IntKind.u64.wrap n)).tmod (16777216:Int))))),MV.cv (CV.lit (Value.int IntKind.i64 (IntKind.i64.wrap ((IntKind.u64.wrap ((IntKind.u64.wrap ((0:Int)-IntKind.u64.wrap n)).tdiv (16777216:Int))).tmod (16777216:Int))))),MV.cv (CV.lit (Value.int IntKind.i64 (IntKind.i64.wrap (IntKind.u64.wrap ((IntKind.u64.wrap ((IntKind.u64.wrap ((0:Int)-IntKind.u64.wrap n)).tdiv (16777216:Int))).tdiv (16777216:Int))))))]=[MV.cv (CV.lit (Value.int IntKind.i64 (IntKind.i64.wrap ((IntKind.u64.wrap ((0:Int)-IntKind.u64.wrap n)).tmod (16777216:Int))))),MV.cv (CV.lit (Value.int IntKind.i64 (IntKind.i64.wrap ((IntKind.u64.wrap ((IntKind.u64.wrap ((0:Int)-IntKind.u64.wrap n)).tdiv (16777216:Int))).tmod (16777216:Int))))),MV.cv (CV.lit (Value.int IntKind.i64 (IntKind.i64.wrap (IntKind.u64.wrap ((IntKind.u64.wrap ((IntKind.u64.wrap ((0:Int)-IntKind.u64.wrap n)).tdiv (16777216:Int))).tdiv (16777216:Int))))))]):PCall P (131:FuncId) [j4 n] (CV.agg [CV.lit (Value.bool (decide ((if decide (n<(0:Int))=true then-(IntKind.i64.wrap ((IntKind.u64.wrap ((0:Int)-IntKind.u64.wrap n)).tmod (16777216:Int))+(16777216:Int)*(IntKind.i64.wrap ((IntKind.u64.wrap ((IntKind.u64.wrap ((0:Int)-IntKind.u64.wrap n)).tdiv (16777216:Int))).tmod (16777216:Int))+(16777216:Int)*IntKind.i64.wrap (IntKind.u64.wrap ((IntKind.u64.wrap ((IntKind.u64.wrap ((0:Int)-IntKind.u64.wrap n)).tdiv (16777216:Int))).tdiv (16777216:Int)))))else IntKind.i64.wrap ((IntKind.u64.wrap ((0:Int)-IntKind.u64.wrap n)).tmod (16777216:Int))+(16777216:Int)*(IntKind.i64.wrap ((IntKind.u64.wrap ((IntKind.u64.wrap ((0:Int)-IntKind.u64.wrap n)).tdiv (16777216:Int))).tmod (16777216:Int))+(16777216:Int)*IntKind.i64.wrap (IntKind.u64.wrap ((IntKind.u64.wrap ((IntKind.u64.wrap ((0:Int)-IntKind.u64.wrap n)).tdiv (16777216:Int))).tdiv (16777216:Int)))))<(0:Int)))),CV.lit (Value.string (bytesOf (if decide (n<(0:Int))=true then-(IntKind.i64.wrap ((IntKind.u64.wrap ((0:Int)-IntKind.u64.wrap n)).tmod (16777216:Int))+(16777216:Int)*(IntKind.i64.wrap ((IntKind.u64.wrap ((IntKind.u64.wrap ((0:Int)-IntKind.u64.wrap n)).tdiv (16777216:Int))).tmod (16777216:Int))+(16777216:Int)*IntKind.i64.wrap (IntKind.u64.wrap ((IntKind.u64.wrap ((IntKind.u64.wrap ((0:Int)-IntKind.u64.wrap n)).tdiv (16777216:Int))).tdiv (16777216:Int)))))else IntKind.i64.wrap ((IntKind.u64.wrap ((0:Int)-IntKind.u64.wrap n)).tmod (16777216:Int))+(16777216:Int)*(IntKind.i64.wrap ((IntKind.u64.wrap ((IntKind.u64.wrap ((0:Int)-IntKind.u64.wrap n)).tdiv (16777216:Int))).tmod (16777216:Int))+(16777216:Int)*IntKind.i64.wrap (IntKind.u64.wrap ((IntKind.u64.wrap ((IntKind.u64.wrap ((0:Int)-IntKind.u64.wrap n)).tdiv (16777216:Int))).tdiv (16777216:Int))))).natAbs))]):=
 j3 (.b 6 h1 (.c (show(16777216:Int)≠(0:Int)from(by decide)) (.c (show(16777216:Int)≠(0:Int)from(by decide)) (.c (show(16777216:Int)≠(0:Int)from(by decide)) (.c (show(16777216:Int)≠(0:Int)from(by decide)) (.c (show(16777216:Int)≠(0:Int)from(by decide)) (.c (Go.Fw.RSg3 (decide (n<(0:Int))) (IntKind.i64.wrap ((IntKind.u64.wrap ((0:Int)-IntKind.u64.wrap n)).tmod (16777216:Int))) (IntKind.i64.wrap ((IntKind.u64.wrap ((IntKind.u64.wrap ((0:Int)-IntKind.u64.wrap n)).tdiv (16777216:Int))).tmod (16777216:Int))) (IntKind.i64.wrap (IntKind.u64.wrap ((IntKind.u64.wrap ((IntKind.u64.wrap ((0:Int)-IntKind.u64.wrap n)).tdiv (16777216:Int))).tdiv (16777216:Int)))) s24_0 s24_1 s24_2) (.c o7 (.c (show 2≤2 from(by decide)) (.o 24 (Or.k (CV.agg [CV.lit (Value.bool (decide ((if decide (n<(0:Int))=true then-(IntKind.i64.wrap ((IntKind.u64.wrap ((0:Int)-IntKind.u64.wrap n)).tmod (16777216:Int))+(16777216:Int)*(IntKind.i64.wrap ((IntKind.u64.wrap ((IntKind.u64.wrap ((0:Int)-IntKind.u64.wrap n)).tdiv (16777216:Int))).tmod (16777216:Int))+(16777216:Int)*IntKind.i64.wrap (IntKind.u64.wrap ((IntKind.u64.wrap ((IntKind.u64.wrap ((0:Int)-IntKind.u64.wrap n)).tdiv (16777216:Int))).tdiv (16777216:Int)))))else IntKind.i64.wrap ((IntKind.u64.wrap ((0:Int)-IntKind.u64.wrap n)).tmod (16777216:Int))+(16777216:Int)*(IntKind.i64.wrap ((IntKind.u64.wrap ((IntKind.u64.wrap ((0:Int)-IntKind.u64.wrap n)).tdiv (16777216:Int))).tmod (16777216:Int))+(16777216:Int)*IntKind.i64.wrap (IntKind.u64.wrap ((IntKind.u64.wrap ((IntKind.u64.wrap ((0:Int)-IntKind.u64.wrap n)).tdiv (16777216:Int))).tdiv (16777216:Int)))))<(0:Int)))),CV.lit (Value.string (bytesOf (if decide (n<(0:Int))=true then-(IntKind.i64.wrap ((IntKind.u64.wrap ((0:Int)-IntKind.u64.wrap n)).tmod (16777216:Int))+(16777216:Int)*(IntKind.i64.wrap ((IntKind.u64.wrap ((IntKind.u64.wrap ((0:Int)-IntKind.u64.wrap n)).tdiv (16777216:Int))).tmod (16777216:Int))+(16777216:Int)*IntKind.i64.wrap (IntKind.u64.wrap ((IntKind.u64.wrap ((IntKind.u64.wrap ((0:Int)-IntKind.u64.wrap n)).tdiv (16777216:Int))).tdiv (16777216:Int)))))else IntKind.i64.wrap ((IntKind.u64.wrap ((0:Int)-IntKind.u64.wrap n)).tmod (16777216:Int))+(16777216:Int)*(IntKind.i64.wrap ((IntKind.u64.wrap ((IntKind.u64.wrap ((0:Int)-IntKind.u64.wrap n)).tdiv (16777216:Int))).tmod (16777216:Int))+(16777216:Int)*IntKind.i64.wrap (IntKind.u64.wrap ((IntKind.u64.wrap ((IntKind.u64.wrap ((0:Int)-IntKind.u64.wrap n)).tdiv (16777216:Int))).tdiv (16777216:Int))))).natAbs))]) [[CV.lit (Value.int IntKind.i64 (IntKind.i64.wrap ((IntKind.u64.wrap ((0:Int)-IntKind.u64.wrap n)).tmod (16777216:Int)))),CV.lit (Value.int IntKind.i64 (IntKind.i64.wrap ((IntKind.u64.wrap ((IntKind.u64.wrap ((0:Int)-IntKind.u64.wrap n)).tdiv (16777216:Int))).tmod (16777216:Int)))),CV.lit (Value.int IntKind.i64 (IntKind.i64.wrap (IntKind.u64.wrap ((IntKind.u64.wrap ((IntKind.u64.wrap ((0:Int)-IntKind.u64.wrap n)).tdiv (16777216:Int))).tdiv (16777216:Int)))))]]) .nil)))))))))) (by kernel_rfl)
theorem zoa(n:Int)(h1:decide (n<(0:Int))=false)(s21_0:(0:Int)≤IntKind.i64.wrap ((IntKind.u64.wrap n).tmod (16777216:Int))∧IntKind.i64.wrap ((IntKind.u64.wrap n).tmod (16777216:Int))<(16777216:Int))(s21_1:(0:Int)≤IntKind.i64.wrap ((IntKind.u64.wrap ((IntKind.u64.wrap n).tdiv (16777216:Int))).tmod (16777216:Int))∧IntKind.i64.wrap ((IntKind.u64.wrap ((IntKind.u64.wrap n).tdiv (16777216:Int))).tmod (16777216:Int))<(16777216:Int))(s21_2:(0:Int)≤IntKind.i64.wrap (IntKind.u64.wrap ((IntKind.u64.wrap ((IntKind.u64.wrap n).tdiv (16777216:Int))).tdiv (16777216:Int)))∧IntKind.i64.wrap (IntKind.u64.wrap ((IntKind.u64.wrap ((IntKind.u64.wrap n).tdiv (16777216:Int))).tdiv (16777216:Int)))<(16777216:Int))(o7:[MV.cv (CV.lit (Value.int IntKind.i64 (IntKind.i64.wrap ((IntKind.u64.wrap n).tmod (16777216:Int))))),MV.cv (CV.lit (Value.int IntKind.i64 (IntKind.i64.wrap ((IntKind.u64.wrap ((IntKind.u64.wrap n).tdiv (16777216:Int))).tmod (16777216:Int))))),MV.cv (CV.lit (Value.int IntKind.i64 (IntKind.i64.wrap (IntKind.u64.wrap ((IntKind.u64.wrap ((IntKind.u64.wrap n).tdiv (16777216:Int))).tdiv (16777216:Int))))))]=[MV.cv (CV.lit (Value.int IntKind.i64 (IntKind.i64.wrap ((IntKind.u64.wrap n).tmod (16777216:Int))))),MV.cv (CV.lit (Value.int IntKind.i64 (IntKind.i64.wrap ((IntKind.u64.wrap ((IntKind.u64.wrap n).tdiv (16777216:Int))).tmod (16777216:Int))))),MV.cv (CV.lit (Value.int IntKind.i64 (IntKind.i64.wrap (IntKind.u64.wrap ((IntKind.u64.wrap ((IntKind.u64.wrap n).tdiv (16777216:Int))).tdiv (16777216:Int))))))]):PCall P (131:FuncId) [j4 n] (CV.agg [CV.lit (Value.bool (decide ((if decide (n<(0:Int))=true then-(IntKind.i64.wrap ((IntKind.u64.wrap n).tmod (16777216:Int))+(16777216:Int)*(IntKind.i64.wrap ((IntKind.u64.wrap ((IntKind.u64.wrap n).tdiv (16777216:Int))).tmod (16777216:Int))+(16777216:Int)*IntKind.i64.wrap (IntKind.u64.wrap ((IntKind.u64.wrap ((IntKind.u64.wrap n).tdiv (16777216:Int))).tdiv (16777216:Int)))))else IntKind.i64.wrap ((IntKind.u64.wrap n).tmod (16777216:Int))+(16777216:Int)*(IntKind.i64.wrap ((IntKind.u64.wrap ((IntKind.u64.wrap n).tdiv (16777216:Int))).tmod (16777216:Int))+(16777216:Int)*IntKind.i64.wrap (IntKind.u64.wrap ((IntKind.u64.wrap ((IntKind.u64.wrap n).tdiv (16777216:Int))).tdiv (16777216:Int)))))<(0:Int)))),CV.lit (Value.string (bytesOf (if decide (n<(0:Int))=true then-(IntKind.i64.wrap ((IntKind.u64.wrap n).tmod (16777216:Int))+(16777216:Int)*(IntKind.i64.wrap ((IntKind.u64.wrap ((IntKind.u64.wrap n).tdiv (16777216:Int))).tmod (16777216:Int))+(16777216:Int)*IntKind.i64.wrap (IntKind.u64.wrap ((IntKind.u64.wrap ((IntKind.u64.wrap n).tdiv (16777216:Int))).tdiv (16777216:Int)))))else IntKind.i64.wrap ((IntKind.u64.wrap n).tmod (16777216:Int))+(16777216:Int)*(IntKind.i64.wrap ((IntKind.u64.wrap ((IntKind.u64.wrap n).tdiv (16777216:Int))).tmod (16777216:Int))+(16777216:Int)*IntKind.i64.wrap (IntKind.u64.wrap ((IntKind.u64.wrap ((IntKind.u64.wrap n).tdiv (16777216:Int))).tdiv (16777216:Int))))).natAbs))]):=
 j3 (.b 6 h1 (.c (show(16777216:Int)≠(0:Int)from(by decide)) (.c (show(16777216:Int)≠(0:Int)from(by decide)) (.c (show(16777216:Int)≠(0:Int)from(by decide)) (.c (show(16777216:Int)≠(0:Int)from(by decide)) (.c (show(16777216:Int)≠(0:Int)from(by decide)) (.c (Go.Fw.RSg3 (decide (n<(0:Int))) (IntKind.i64.wrap ((IntKind.u64.wrap n).tmod (16777216:Int))) (IntKind.i64.wrap ((IntKind.u64.wrap ((IntKind.u64.wrap n).tdiv (16777216:Int))).tmod (16777216:Int))) (IntKind.i64.wrap (IntKind.u64.wrap ((IntKind.u64.wrap ((IntKind.u64.wrap n).tdiv (16777216:Int))).tdiv (16777216:Int)))) s21_0 s21_1 s21_2) (.c o7 (.c (show 2≤2 from(by decide)) (.o 21 (Or.k (CV.agg [CV.lit (Value.bool (decide ((if decide (n<(0:Int))=true then-(IntKind.i64.wrap ((IntKind.u64.wrap n).tmod (16777216:Int))+(16777216:Int)*(IntKind.i64.wrap ((IntKind.u64.wrap ((IntKind.u64.wrap n).tdiv (16777216:Int))).tmod (16777216:Int))+(16777216:Int)*IntKind.i64.wrap (IntKind.u64.wrap ((IntKind.u64.wrap ((IntKind.u64.wrap n).tdiv (16777216:Int))).tdiv (16777216:Int)))))else IntKind.i64.wrap ((IntKind.u64.wrap n).tmod (16777216:Int))+(16777216:Int)*(IntKind.i64.wrap ((IntKind.u64.wrap ((IntKind.u64.wrap n).tdiv (16777216:Int))).tmod (16777216:Int))+(16777216:Int)*IntKind.i64.wrap (IntKind.u64.wrap ((IntKind.u64.wrap ((IntKind.u64.wrap n).tdiv (16777216:Int))).tdiv (16777216:Int)))))<(0:Int)))),CV.lit (Value.string (bytesOf (if decide (n<(0:Int))=true then-(IntKind.i64.wrap ((IntKind.u64.wrap n).tmod (16777216:Int))+(16777216:Int)*(IntKind.i64.wrap ((IntKind.u64.wrap ((IntKind.u64.wrap n).tdiv (16777216:Int))).tmod (16777216:Int))+(16777216:Int)*IntKind.i64.wrap (IntKind.u64.wrap ((IntKind.u64.wrap ((IntKind.u64.wrap n).tdiv (16777216:Int))).tdiv (16777216:Int)))))else IntKind.i64.wrap ((IntKind.u64.wrap n).tmod (16777216:Int))+(16777216:Int)*(IntKind.i64.wrap ((IntKind.u64.wrap ((IntKind.u64.wrap n).tdiv (16777216:Int))).tmod (16777216:Int))+(16777216:Int)*IntKind.i64.wrap (IntKind.u64.wrap ((IntKind.u64.wrap ((IntKind.u64.wrap n).tdiv (16777216:Int))).tdiv (16777216:Int))))).natAbs))]) [[CV.lit (Value.int IntKind.i64 (IntKind.i64.wrap ((IntKind.u64.wrap n).tmod (16777216:Int)))),CV.lit (Value.int IntKind.i64 (IntKind.i64.wrap ((IntKind.u64.wrap ((IntKind.u64.wrap n).tdiv (16777216:Int))).tmod (16777216:Int)))),CV.lit (Value.int IntKind.i64 (IntKind.i64.wrap (IntKind.u64.wrap ((IntKind.u64.wrap ((IntKind.u64.wrap n).tdiv (16777216:Int))).tdiv (16777216:Int)))))]]) .nil)))))))))) (by kernel_rfl)
end Go.Fw
open Go
namespace Go.Fw
theorem z8b {U : Int} (h : 0 ≤ U ∧ U ≤ 9223372036854775808) : IntKind.i64.wrap (U.tmod 16777216) = U % 16777216 ∧ IntKind.u64.wrap (U.tdiv 16777216) = U / 16777216 ∧ IntKind.i64.wrap ((U / 16777216).tmod 16777216) = U / 16777216 % 16777216 ∧
    IntKind.i64.wrap (IntKind.u64.wrap ((U/16777216).tdiv 16777216))=U/16777216/16777216:=by
 rw[Int.tmod_eq_emod_of_nonneg h.1,Int.tdiv_eq_ediv_of_nonneg h.1,Int.tmod_eq_emod_of_nonneg (by omega),Int.tdiv_eq_ediv_of_nonneg (by omega),z1H,z1H,w64 (by omega),w64 (by omega),w64 (by omega)]
 omega
theorem W7(n:Int)(h: -9223372036854775808≤n∧n≤9223372036854775807):PCall P 131 [j4 n] (J5 n):=by
 cases h1:decide (n<0)with
 |true=>
  have h1':=of_decide_eq_true h1
  have hu:IntKind.u64.wrap (0-IntKind.u64.wrap n)= -n:=by rw[z1H,z1H];omega
  obtain⟨d1,d2,d3,d4⟩:=z8b (U:= -n) (by omega)
  refine(zp6 n h1 (by rw[hu,d1];omega) (by rw[hu,d2,d3];omega) (by rw[hu,d2,d4];omega) rfl).eq ?_
  rw[hu,d1,d2,d3,d4]
  show J5 _=J5 n
  congr 1
  rw[if_pos (by simpa using h1')];omega
 |false=>
  have h1':=of_decide_eq_false h1
  have hu:IntKind.u64.wrap n=n:=by rw[z1H];omega
  obtain⟨d1,d2,d3,d4⟩:=z8b (U:=n) (by omega)
  refine(zoa n h1 (by rw[hu,d1];omega) (by rw[hu,d2,d3];omega) (by rw[hu,d2,d4];omega) rfl).eq ?_
  rw[hu,d1,d2,d3,d4]
  show J5 _=J5 n
  congr 1
  rw[if_neg (by simpa using h1')];omega
end Go.Fw
open Go IntKind
namespace Go.Fw
set_option maxRecDepth 100000
theorem zki(z:Int)(h1:decide ((↑(bytesOf z.natAbs).size:Int)>8)=true):PCall P 236 [J5 z] (.tup [.lit (.int .i64 0),.lit (.bool false)]):=
 j3 (.r 4 (J1 (z)) (.b 12 h1 .nil)) (by kernel_rfl)
theorem zcj(z:Int)(h1:decide ((↑(bytesOf z.natAbs).size:Int)>8)=false){R:CV→Prop}(hR:Ok P 236 (loopHead P 236 0) ⟨J3 52 [(1,.ptr 0 0),(4,.cv (.lit (.int .u64 0))),(5,.cv (.lit (.int .i64 0)))],[some [.cv (.lit (.bool (decide (z<0)))),.cv (.lit (.string (bytesOf z.natAbs)))]]⟩ (.of R)):X5 P 236 [J5 z] R:=
 Y9 (keep:=[1,4,5]) (σ:=[0]) (.r 4 (J1 (z)) (.b 12 h1 (.o 15 .stop .nil))) (by kernel_rfl) rfl hR (.cons (by simp[CvL]) .nil)
theorem zfY(b:Bool)(s:ByteArray)(i u:Nat)(h:decide ((i:Int)<(↑s.size:Int))=true)(o2:(0:Int)≤i∧(i:Int)<(↑s.size:Int)){R:Goal}(hn:J0 R.n [0]=true)(hR:Ok P 236 (loopHead P 236 0) ⟨J3 52 [(1,.ptr 0 0),(4,.cv (.lit (.int .u64 (u64.wrap (u64.wrap ((u:Int)*256)+u64.wrap (↑(s.data.getD (i:Int).toNat (OfNat.ofNat 0)).toNat:Int)))))),(5,.cv (.lit (.int .i64 (i64.wrap ((i:Int)+1)))))],[some [.cv (.lit (.bool b)),.cv (.lit (.string s))]]⟩ R):Ok P 236 (loopHead P 236 0) ⟨J3 52 [(1,.ptr 0 0),(4,.cv (.lit (.int .u64 (u:Int)))),(5,.cv (j4 (i:Int)))],[some [.cv (.lit (.bool b)),.cv (.lit (.string s))]]⟩ R:=
 z0W (keep:=[1,4,5]) (σ:=[0]) (.b 6 h (.c (nn 8) (.c o2 (.o 19 .stop .nil)))) (by kernel_rfl) rfl hn hR (.cons (by simp[CvL]) .nil)
end Go.Fw
open Go IntKind
namespace Go.Fw
set_option maxRecDepth 100000
theorem zaN(s:ByteArray)(i:Nat)(u:Int)(h:decide ((i:Int)<(↑s.size:Int))=false)(h2:decide (u<9223372036854775808)=true){R:Goal}(hR:R.c (.tup [.lit (.int .i64 (i64.wrap u)),.lit (.bool true)])):Ok P 236 (loopHead P 236 0) ⟨J3 52 [(1,.ptr 0 0),(4,.cv (.lit (.int .u64 u))),(5,.cv (j4 (i:Int)))],[some [.cv (.lit (.bool false)),.cv (.lit (.string s))]]⟩ R:=
 okT (.b 6 h (.b 23 h2 .nil)) (by kernel_rfl) hR
theorem zaO(s:ByteArray)(i:Nat)(u:Int)(h:decide ((i:Int)<(↑s.size:Int))=false)(h2:decide (u≤9223372036854775808)=true){R:Goal}(hR:R.c (.tup [.lit (.int .i64 (i64.wrap (i64.wrap ((0:Int)-i64.wrap (u64.wrap (u-1)))-1))),.lit (.bool true)])):Ok P 236 (loopHead P 236 0) ⟨J3 52 [(1,.ptr 0 0),(4,.cv (.lit (.int .u64 u))),(5,.cv (j4 (i:Int)))],[some [.cv (.lit (.bool true)),.cv (.lit (.string s))]]⟩ R:=
 okT (.b 6 h (.b 14 h2 .nil)) (by kernel_rfl) hR
end Go.Fw
open Go
namespace Go.Fw
theorem z4S(s:ByteArray){i:Nat}(h:i<s.size):(s.data.getD i (OfNat.ofNat 0)).toNat=J7 s/256^(s.size-1-i)%256:=by
 have:=z74 s (i:=s.size-1-i) (by omega)
 rw[show s.size-1-(s.size-1-i)=i by omega]at this
 refine this.symm.trans ?_
 have hd:=z1R s
 conv=>lhs;rw[←z0I (by decide) (z2z s) hd]
 rw[X6 _ _ _ _ (by rw[U5];omega)];rfl
theorem z5J {R : Goal} (hn : R.n = 0) (b : Bool) (s : ByteArray) (hs : s.size ≤ 8)
    (hR:Ok P 236 (loopHead P 236 0) ⟨J3 52 [(1,.ptr 0 0),(4,.cv (.lit (.int .u64 (J7 s:Nat)))),(5,.cv (j4 s.size))],[some [.cv (.lit (.bool b)),.cv (.lit (.string s))]]⟩ R): ∀(d i:Nat),i+d=s.size→
    Ok P 236 (loopHead P 236 0) ⟨J3 52 [(1,.ptr 0 0),(4,.cv (.lit (.int .u64 (J7 s/256^(s.size-i):Nat)))),(5,.cv (j4 i))],[some [.cv (.lit (.bool b)),.cv (.lit (.string s))]]⟩ R
 |0,i,hi=>by
  have:i=s.size:=by omega
  subst this
  simpa using hR
 |d+1,i,hi=>by
  refine zfY b s i _ (decide_eq_true (by omega)) (by omega) (by rw[hn];rfl) ?_
  have hb:=z4S s (i:=i) (by omega)
  have hV:J7 s<18446744073709551616:=Nat.lt_of_lt_of_le (z0t s) (Nat.pow_le_pow_right (by decide) hs)
  have hstep:J7 s/256^(s.size-(i+1))=J7 s/256^(s.size-i)*256+J7 s/256^(s.size-1-i)%256:=by
   rw[show s.size-i=(s.size-1-i)+1 by omega,Nat.pow_succ,←Nat.div_div_eq_div_mul,show s.size-(i+1)=s.size-1-i by omega]
   omega
  have hle:=Nat.div_le_self (J7 s) (256^(s.size-(i+1)))
  have ih:=z5J hn b s hs hR d (i+1) (by omega)
  rw[hstep]at ih hle
  rw[Int.toNat_natCast,hb,z1H,z1H,z1H,w64 (by omega)]
  generalize J7 s/256^(s.size-i)=A at ih hle ⊢
  generalize J7 s/256^(s.size-1-i)%256=B at ih hle ⊢
  rw[show((A:Int)*256%18446744073709551616+(B:Int)%18446744073709551616)%18446744073709551616=((A*256+B:Nat):Int) by omega]
  exact ih
end Go.Fw
open Go
namespace Go.Fw
theorem U2{n k:Nat}:(bytesOf n).size≤k↔n<256^k:=by rw[z1M];exact z3w (by decide)
theorem zdH(z:Int)(h: -9223372036854775808<z∧z<9223372036854775808):PCall P 236 [J5 z] (.tup [j4 z,.lit (.bool true)]):=by
 have hs:(bytesOf z.natAbs).size≤8:=U2.2 (by omega)
 refine zcj z (decide_eq_false (by omega)) (R := (· = _)) ?_
 have hv:J7 (bytesOf z.natAbs)=z.natAbs:=U3 _
 have := z5J (R := (· = CV.tup [j4 z, .lit (.bool true)])) rfl (decide (z < 0)) (bytesOf z.natAbs) hs ?_ (bytesOf z.natAbs).size 0 (by omega)
 · have e:J7 (bytesOf z.natAbs)/256^((bytesOf z.natAbs).size-0)=0:=Nat.div_eq_of_lt (z0t _)
   rw[e]at this
   exact this
 · rw[hv]
   by_cases hz:z<0
   · rw[decide_eq_true hz]
     refine zaO _ _ _ (decide_eq_false (by omega)) (decide_eq_true (by omega)) ?_
     show CV.tup _=CV.tup _
     rw[z1H,w64 (n:=((z.natAbs:Int)-1)%18446744073709551616) (by omega),w64 (n:=0-((z.natAbs:Int)-1)%18446744073709551616) (by omega),w64 (by omega)]
     congr 4;omega
   · rw[decide_eq_false hz]
     refine zaN _ _ _ (decide_eq_false (by omega)) (decide_eq_true (by omega)) ?_
     show CV.tup _=CV.tup _
     rw[w64 (by omega)]
     congr 4;omega
end Go.Fw
open Go IntKind
namespace Go.Fw
set_option maxRecDepth 100000
theorem ziy(z:Int)(h1:decide ((↑(bytesOf z.natAbs).size:Int)>8)=true):PCall P 217 [J5 z] (.tup [.lit (.int .i64 0),.lit (.bool false)]):=
 j3 (.r 4 (Z3 (z)) (.b 12 h1 .nil)) (by kernel_rfl)
theorem zjk(z:Int)(h1:decide ((↑(bytesOf z.natAbs).size:Int)>8)=false){R:CV→Prop}(hR:Ok P 217 (loopHead P 217 0) ⟨J3 50 [(1,.ptr 0 0),(4,.cv (.lit (.int .u64 0))),(17,.cv (.lit (.int .i64 (↑(bytesOf z.natAbs).size:Int)))),(18,.cv (.lit (.int .i64 0)))],[some [.cv (.lit (.bool (decide (z<0)))),.cv (.lit (.string (bytesOf z.natAbs)))]]⟩ (.of R)):X5 P 217 [J5 z] R:=
 Y9 (keep:=[1,4,17,18]) (σ:=[0]) (.r 4 (Z3 (z)) (.b 12 h1 (.o 18 .stop .nil))) (by kernel_rfl) rfl hR (.cons (by simp[CvL]) .nil)
theorem zoQ(a b:Int){R:CV→Prop}(hR:Ok P 164 (loopHead P 164 0) ⟨J3 12 [(0,.cv (.lit (.int .i64 a))),(1,.cv (.lit (.int .i64 b)))],[]⟩ (.of R)):X5 P 164 [j4 a,j4 b] R:=
 Y9 (keep:=[0,1]) (σ:=[]) (.o 1 .stop .nil) (by kernel_rfl) rfl hR .nil
theorem zpb(a b:Int){R:CV→Prop}(hR:Ok P 165 (loopHead P 165 0) ⟨J3 12 [(0,.cv (.lit (.int .i64 a))),(1,.cv (.lit (.int .i64 b)))],[]⟩ (.of R)):X5 P 165 [j4 a,j4 b] R:=
 Y9 (keep:=[0,1]) (σ:=[]) (.o 1 .stop .nil) (by kernel_rfl) rfl hR .nil
theorem zlZ(a b:Int)(h1:(b != 0)=true)(o1:b≠0){R:Goal}(hn:J0 R.n []=true)(hR:Ok P 164 (loopHead P 164 0) ⟨J3 12 [(0,.cv (.lit (.int .i64 b))),(1,.cv (.lit (.int .i64 (a.tmod b))))],[]⟩ R):Ok P 164 (loopHead P 164 0) ⟨J3 12 [(0,.cv (j4 a)),(1,.cv (j4 b))],[]⟩ R:=
 z0W (keep:=[0,1]) (σ:=[]) (.b 3 h1 (.c o1 (.o 10 .stop .nil))) (by kernel_rfl) rfl hn hR .nil
theorem zmh(a b:Int)(h1:(b != 0)=false){R:Goal}(hR:R.c (.lit (.int .i64 a))):Ok P 164 (loopHead P 164 0) ⟨J3 12 [(0,.cv (j4 a)),(1,.cv (j4 b))],[]⟩ R:=
 okT (.b 3 h1 .nil) (by kernel_rfl) hR
theorem zi6(a b:Int)(h1:(b != 0)=true)(o1:b≠0){R:Goal}(hn:J0 R.n []=true)(hR:Ok P 165 (loopHead P 165 0) ⟨J3 12 [(0,.cv (.lit (.int .i64 b))),(1,.cv (.lit (.int .i64 (a.tmod b))))],[]⟩ R):Ok P 165 (loopHead P 165 0) ⟨J3 12 [(0,.cv (j4 a)),(1,.cv (j4 b))],[]⟩ R:=
 z0W (keep:=[0,1]) (σ:=[]) (.b 3 h1 (.c o1 (.o 10 .stop .nil))) (by kernel_rfl) rfl hn hR .nil
theorem zis(a b:Int)(h1:(b != 0)=false){R:Goal}(hR:R.c (.lit (.int .i64 a))):Ok P 165 (loopHead P 165 0) ⟨J3 12 [(0,.cv (j4 a)),(1,.cv (j4 b))],[]⟩ R:=
 okT (.b 3 h1 .nil) (by kernel_rfl) hR
theorem zeV(b:Bool)(s:ByteArray)(i:Nat)(u:Int)(h:decide ((i:Int)<(↑s.size:Int))=true)(o2:(0:Int)≤i∧(i:Int)<(↑s.size:Int)){R:Goal}(hn:J0 R.n [0]=true)(hR:Ok P 217 (loopHead P 217 0) ⟨J3 50 [(1,.ptr 0 0),(4,.cv (.lit (.int .u64 (V6 BinOp.or u64 (u64.wrap (u*256)) (u64.wrap (↑(s.data.getD (i:Int).toNat (OfNat.ofNat 0)).toNat:Int)))))),(17,.cv (.lit (.int .i64 (↑s.size:Int)))),(18,.cv (.lit (.int .i64 (i64.wrap ((i:Int)+1)))))],[some [.cv (.lit (.bool b)),.cv (.lit (.string s))]]⟩ R):Ok P 217 (loopHead P 217 0) ⟨J3 50 [(1,.ptr 0 0),(4,.cv (.lit (.int .u64 u))),(17,.cv (j4 (↑s.size:Int))),(18,.cv (j4 (i:Int)))],[some [.cv (.lit (.bool b)),.cv (.lit (.string s))]]⟩ R:=
 z0W (keep:=[1,4,17,18]) (σ:=[0]) (.b 2 h (.c (nn 8) (.c o2 (.o 16 .stop .nil)))) (by kernel_rfl) rfl hn hR (.cons (by simp[CvL]) .nil)
theorem zfZ(s:ByteArray)(i:Nat)(u:Int)(h:decide ((i:Int)<(↑s.size:Int))=false)(h1:decide (u≤9223372036854775808)=true){R:Goal}(hR:R.c (.tup [.lit (.int .i64 (i64.wrap (u64.wrap ((0:Int)-u)))),.lit (.bool true)])):Ok P 217 (loopHead P 217 0) ⟨J3 50 [(1,.ptr 0 0),(4,.cv (.lit (.int .u64 u))),(17,.cv (j4 (↑s.size:Int))),(18,.cv (j4 (i:Int)))],[some [.cv (.lit (.bool true)),.cv (.lit (.string s))]]⟩ R:=
 okT (.b 2 h (.b 10 h1 .nil)) (by kernel_rfl) hR
theorem zhf(s:ByteArray)(i:Nat)(u:Int)(h:decide ((i:Int)<(↑s.size:Int))=false)(h1:decide (u≤9223372036854775808)=false){R:Goal}(hR:R.c (.tup [.lit (.int .i64 0),.lit (.bool false)])):Ok P 217 (loopHead P 217 0) ⟨J3 50 [(1,.ptr 0 0),(4,.cv (.lit (.int .u64 u))),(17,.cv (j4 (↑s.size:Int))),(18,.cv (j4 (i:Int)))],[some [.cv (.lit (.bool true)),.cv (.lit (.string s))]]⟩ R:=
 okT (.b 2 h (.b 10 h1 .nil)) (by kernel_rfl) hR
theorem zfS(s:ByteArray)(i:Nat)(u:Int)(h:decide ((i:Int)<(↑s.size:Int))=false)(h1:decide (u<9223372036854775808)=true){R:Goal}(hR:R.c (.tup [.lit (.int .i64 (i64.wrap u)),.lit (.bool true)])):Ok P 217 (loopHead P 217 0) ⟨J3 50 [(1,.ptr 0 0),(4,.cv (.lit (.int .u64 u))),(17,.cv (j4 (↑s.size:Int))),(18,.cv (j4 (i:Int)))],[some [.cv (.lit (.bool false)),.cv (.lit (.string s))]]⟩ R:=
 okT (.b 2 h (.b 19 h1 .nil)) (by kernel_rfl) hR
theorem zgC(s:ByteArray)(i:Nat)(u:Int)(h:decide ((i:Int)<(↑s.size:Int))=false)(h1:decide (u<9223372036854775808)=false){R:Goal}(hR:R.c (.tup [.lit (.int .i64 0),.lit (.bool false)])):Ok P 217 (loopHead P 217 0) ⟨J3 50 [(1,.ptr 0 0),(4,.cv (.lit (.int .u64 u))),(17,.cv (j4 (↑s.size:Int))),(18,.cv (j4 (i:Int)))],[some [.cv (.lit (.bool false)),.cv (.lit (.string s))]]⟩ R:=
 okT (.b 2 h (.b 19 h1 .nil)) (by kernel_rfl) hR
theorem zfE(s:ByteArray)(i:Nat)(u:Int)(h:decide ((i:Int)<(↑s.size:Int))=false)(h2:decide (u≤9223372036854775808)=false){R:Goal}(hR:R.c (.tup [.lit (.int .i64 0),.lit (.bool false)])):Ok P 236 (loopHead P 236 0) ⟨J3 52 [(1,.ptr 0 0),(4,.cv (.lit (.int .u64 u))),(5,.cv (j4 (i:Int)))],[some [.cv (.lit (.bool true)),.cv (.lit (.string s))]]⟩ R:=
 okT (.b 6 h (.b 14 h2 .nil)) (by kernel_rfl) hR
theorem zft(s:ByteArray)(i:Nat)(u:Int)(h:decide ((i:Int)<(↑s.size:Int))=false)(h2:decide (u<9223372036854775808)=false){R:Goal}(hR:R.c (.tup [.lit (.int .i64 0),.lit (.bool false)])):Ok P 236 (loopHead P 236 0) ⟨J3 52 [(1,.ptr 0 0),(4,.cv (.lit (.int .u64 u))),(5,.cv (j4 (i:Int)))],[some [.cv (.lit (.bool false)),.cv (.lit (.string s))]]⟩ R:=
 okT (.b 6 h (.b 23 h2 .nil)) (by kernel_rfl) hR
end Go.Fw
open Go
namespace Go.Fw
set_option maxRecDepth 100000
theorem z8s {R : Goal} (f : FuncId) (hf : ∀ (a b : Nat), 0 < b → Ok P f (loopHead P f 0) ⟨J3 12 [(0, .cv (j4 b)), (1, .cv (j4 (a % b : Nat)))], []⟩ R → Ok P f (loopHead P f 0) ⟨J3 12 [(0, .cv (j4 a)), (1, .cv (j4 b))], []⟩ R)
    (h0: ∀a:Nat,R.c (j4 a)→Ok P f (loopHead P f 0) ⟨J3 12 [(0,.cv (j4 a)),(1,.cv (j4 (0:Nat)))],[]⟩ R):
    ∀(b a:Nat),R.c (j4 (Nat.gcd a b))→Ok P f (loopHead P f 0) ⟨J3 12 [(0,.cv (j4 a)),(1,.cv (j4 b))],[]⟩ R:=by
 intro b
 induction b using Nat.strongRecOn with
 |ind b ih=>
  intro a hR
  rcases Nat.eq_zero_or_pos b with rfl|hb
  · exact h0 a (by rwa[Nat.gcd_zero_right]at hR)
  · refine hf a b hb (ih (a%b) (Nat.mod_lt _ hb) b ?_)
    rw[Nat.gcd_comm b,←Nat.gcd_rec,Nat.gcd_comm];exact hR
theorem zcd{b:Nat}(h:0<b):((b:Int) != 0)=true:=by
 unfold bne
 rw[show((b:Int)==0)=false from by cases e:(b:Int)==0;rfl;exact absurd (beq_iff_eq.1 e) (by omega)];rfl
theorem zoY(a b:Int)(ha:0≤a)(hb:0≤b):PCall P 164 [j4 a,j4 b] (j4 (Nat.gcd a.natAbs b.natAbs)):=by
 obtain⟨x,rfl⟩:=Int.eq_ofNat_of_zero_le ha
 obtain⟨y,rfl⟩:=Int.eq_ofNat_of_zero_le hb
 refine zoQ x y (R := (· = _)) (z8s 164 (fun a b hb h => zlZ a b (zcd hb) (by omega) rfl h) (fun a h => zmh a 0 rfl h) y x ?_)
 rfl
theorem zdr(a b:Int)(ha:0≤a)(hb:0≤b):PCall P 165 [j4 a,j4 b] (j4 (Nat.gcd a.natAbs b.natAbs)):=by
 obtain⟨x,rfl⟩:=Int.eq_ofNat_of_zero_le ha
 obtain⟨y,rfl⟩:=Int.eq_ofNat_of_zero_le hb
 refine zpb x y (R := (· = _)) (z8s 165 (fun a b hb h => zi6 a b (zcd hb) (by omega) rfl h) (fun a h => zis a 0 rfl h) y x ?_)
 rfl
def z0e(z:Int):Int×Bool:=if-9223372036854775808≤z∧z<9223372036854775808 then(z,true)else(0,false)
theorem z89 {R : Goal} (hn : R.n = 0) (b : Bool) (s : ByteArray) (hs : s.size ≤ 8)
    (hR:Ok P 217 (loopHead P 217 0) ⟨J3 50 [(1,.ptr 0 0),(4,.cv (.lit (.int .u64 (J7 s:Nat)))),(17,.cv (j4 s.size)),(18,.cv (j4 s.size))],[some [.cv (.lit (.bool b)),.cv (.lit (.string s))]]⟩ R): ∀(d i:Nat),i+d=s.size→
    Ok P 217 (loopHead P 217 0) ⟨J3 50 [(1,.ptr 0 0),(4,.cv (.lit (.int .u64 (J7 s/256^(s.size-i):Nat)))),(17,.cv (j4 s.size)),(18,.cv (j4 i))],[some [.cv (.lit (.bool b)),.cv (.lit (.string s))]]⟩ R
 |0,i,hi=>by
  have:i=s.size:=by omega
  subst this
  simpa using hR
 |d+1,i,hi=>by
  refine zeV b s i _ (decide_eq_true (by omega)) (by omega) (by rw[hn];rfl) ?_
  have hb:=z4S s (i:=i) (by omega)
  have hV:J7 s<18446744073709551616:=Nat.lt_of_lt_of_le (z0t s) (Nat.pow_le_pow_right (by decide) hs)
  have hstep:J7 s/256^(s.size-(i+1))=J7 s/256^(s.size-i)*256+J7 s/256^(s.size-1-i)%256:=by
   rw[show s.size-i=(s.size-1-i)+1 by omega,Nat.pow_succ,←Nat.div_div_eq_div_mul,show s.size-(i+1)=s.size-1-i by omega]
   omega
  have hle:=Nat.div_le_self (J7 s) (256^(s.size-(i+1)))
  have ih:=z89 hn b s hs hR d (i+1) (by omega)
  have hB:=Nat.mod_lt (J7 s/256^(s.size-1-i)) (show 256>0 by decide)
  rw[hstep]at ih hle
  rw[Int.toNat_natCast,hb,z1H,z1H,w64 (by omega)]
  generalize J7 s/256^(s.size-i)=A at ih hle ⊢
  generalize J7 s/256^(s.size-1-i)%256=B at ih hle hB ⊢
  rw[show(A:Int)*256%18446744073709551616=((A*256:Nat):Int) by omega,show(B:Int)%18446744073709551616=(B:Int) by omega,z6G (by omega) (by omega),show A*256|||B=A*256+B from z1T 8 hB]
  exact ih
theorem i64_in{z:Int}(h: -9223372036854775808≤z∧z<9223372036854775808):z0e z=(z,true):=if_pos h
theorem z4A{z:Int}(h: ¬(-9223372036854775808≤z∧z<9223372036854775808)):z0e z=(0,false):=if_neg h
theorem zsJ{z:Int}(h:decide (((bytesOf z.natAbs).size:Int)>8)=true): ¬(-9223372036854775808≤z∧z<9223372036854775808):=by
 intro hz
 have hs:(bytesOf z.natAbs).size≤8:=U2.2 (by omega)
 have:=of_decide_eq_true h
 omega
theorem zhJ(z:Int):PCall P 217 [J5 z] (.tup [j4 (z0e z).1,.lit (.bool (z0e z).2)]):=by
 cases hs:decide (((bytesOf z.natAbs).size:Int)>8)
 · refine zjk z hs (R := (· = _)) ?_
   have hs':(bytesOf z.natAbs).size≤8:=by have:=of_decide_eq_false hs;omega
   have hv:J7 (bytesOf z.natAbs)=z.natAbs:=U3 _
   have := z89 (R := (· = CV.tup [j4 (z0e z).1, .lit (.bool (z0e z).2)])) rfl (decide (z < 0)) (bytesOf z.natAbs) hs' ?_ (bytesOf z.natAbs).size 0 (by omega)
   · have e:J7 (bytesOf z.natAbs)/256^((bytesOf z.natAbs).size-0)=0:=Nat.div_eq_of_lt (z0t _)
     rw[e]at this
     exact this
   · rw[hv]
     by_cases hz:z<0
     · rw[decide_eq_true hz]
       by_cases h2: -9223372036854775808≤z
       · refine zfZ _ _ _ (decide_eq_false (by omega)) (decide_eq_true (by omega)) ?_
         rw[i64_in (by omega)]
         show CV.tup _=CV.tup _
         rw[z1H]
         have e:IntKind.i64.wrap ((0-(z.natAbs:Int))%18446744073709551616)=z:=by rw[IntKind.wrap_i64];omega
         rw[e]
       · refine zhf _ _ _ (decide_eq_false (by omega)) (decide_eq_false (by omega)) ?_
         rw[z4A (by omega)];rfl
     · rw[decide_eq_false hz]
       by_cases h2:z<9223372036854775808
       · refine zfS _ _ _ (decide_eq_false (by omega)) (decide_eq_true (by omega)) ?_
         rw[i64_in (by omega)]
         show CV.tup _=CV.tup _
         rw[w64 (by omega)]
         congr 4;omega
       · refine zgC _ _ _ (decide_eq_false (by omega)) (decide_eq_false (by omega)) ?_
         rw[z4A (by omega)];rfl
 · rw[z4A (zsJ hs)]
   exact ziy z hs
theorem zcb(z:Int):PCall P 236 [J5 z] (.tup [j4 (z0e z).1,.lit (.bool (z0e z).2)]):=by
 cases hs:decide (((bytesOf z.natAbs).size:Int)>8)
 · refine zcj z hs (R := (· = _)) ?_
   have hs':(bytesOf z.natAbs).size≤8:=by have:=of_decide_eq_false hs;omega
   have hv:J7 (bytesOf z.natAbs)=z.natAbs:=U3 _
   have := z5J (R := (· = CV.tup [j4 (z0e z).1, .lit (.bool (z0e z).2)])) rfl (decide (z < 0)) (bytesOf z.natAbs) hs' ?_ (bytesOf z.natAbs).size 0 (by omega)
   · have e:J7 (bytesOf z.natAbs)/256^((bytesOf z.natAbs).size-0)=0:=Nat.div_eq_of_lt (z0t _)
     rw[e]at this
     exact this
   · rw[hv]
     by_cases hz:z<0
     · rw[decide_eq_true hz]
       by_cases h2: -9223372036854775808≤z
       · refine zaO _ _ _ (decide_eq_false (by omega)) (decide_eq_true (by omega)) ?_
         rw[i64_in (by omega)]
         show CV.tup _=CV.tup _
         rw[z1H,w64 (n:=((z.natAbs:Int)-1)%18446744073709551616) (by omega),w64 (n:=0-((z.natAbs:Int)-1)%18446744073709551616) (by omega),w64 (by omega)]
         congr 4;omega
       · refine zfE _ _ _ (decide_eq_false (by omega)) (decide_eq_false (by omega)) ?_
         rw[z4A (by omega)];rfl
     · rw[decide_eq_false hz]
       by_cases h2:z<9223372036854775808
       · refine zaN _ _ _ (decide_eq_false (by omega)) (decide_eq_true (by omega)) ?_
         rw[i64_in (by omega)]
         show CV.tup _=CV.tup _
         rw[w64 (by omega)]
         congr 4;omega
       · refine zft _ _ _ (decide_eq_false (by omega)) (decide_eq_false (by omega)) ?_
         rw[z4A (by omega)];rfl
 · rw[z4A (zsJ hs)]
   exact zki z hs
end Go.Fw
