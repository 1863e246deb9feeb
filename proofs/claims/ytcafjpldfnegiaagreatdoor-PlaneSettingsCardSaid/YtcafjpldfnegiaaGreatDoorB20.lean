/- A part of the proof that the law returns true for every input: an executor for the model's code, and what functions of the program compute. -/
import Derived.Test.YtcafjpldfnegiaaGreatDoorB11
import Derived.Test.YtcafjpldfnegiaaGreatDoorB15
import Derived.Test.YtcafjpldfnegiaaGreatDoorB16
import Derived.Test.YtcafjpldfnegiaaGreatDoorB19
import Derived.KernelRfl
open Go
namespace Go.Fw
theorem RSg3 (b : Bool) (x y z : Int) (hx : 0 ≤ x ∧ x < 16777216) (hy : 0 ≤ y ∧ y < 16777216) (hz : 0 ≤ z ∧ z < 16777216) :
    PCall P 196 [.lit (.bool b),.lst 3 [j6 x,j6 y,j6 z]] (J6 (if b then-(x+16777216*(y+16777216*z))else x+16777216*(y+16777216*z))):=by
 have h1:x.toNat<16777216:=by omega
 have h2:y.toNat<16777216:=by omega
 have h3:z.toNat<16777216:=by omega
 have h:=z2Z b 3 [x.toNat,y.toNat,z.toNat] rfl (by
  intro v hv
  simp only[List.mem_cons,List.not_mem_nil,or_false]at hv
  rcases hv with e|e|e<;>(rw[e];assumption)) (by show 3<2^40;decide)
 have e:j3 [x.toNat,y.toNat,z.toNat]=[j6 x,j6 y,j6 z]:=by
  simp only[j3,List.map_cons,List.map_nil,Int.toNat_of_nonneg hx.1,Int.toNat_of_nonneg hy.1,Int.toNat_of_nonneg hz.1]
 rw[e]at h
 refine h.eq ?_
 have ev:((val B24 [x.toNat,y.toNat,z.toNat]:Nat):Int)=x+16777216*(y+16777216*z):=by
  simp only[val,B24];omega
 rw[ev]
end Go.Fw
open Go
namespace Go.Fw
set_option maxRecDepth 100000
theorem zox(n:Int)(h1:decide (n<(0:Int))=true)(s24_0:(0:Int)≤IntKind.i64.wrap ((IntKind.u64.wrap ((0:Int)-IntKind.u64.wrap n)).tmod (16777216:Int))∧IntKind.i64.wrap ((IntKind.u64.wrap ((0:Int)-IntKind.u64.wrap n)).tmod (16777216:Int))<(16777216:Int))(s24_1:(0:Int)≤IntKind.i64.wrap ((IntKind.u64.wrap ((IntKind.u64.wrap ((0:Int)-IntKind.u64.wrap n)).tdiv (16777216:Int))).tmod (16777216:Int))∧IntKind.i64.wrap ((IntKind.u64.wrap ((IntKind.u64.wrap ((0:Int)-IntKind.u64.wrap n)).tdiv (16777216:Int))).tmod (16777216:Int))<(16777216:Int))(s24_2:(0:Int)≤IntKind.i64.wrap (IntKind.u64.wrap ((IntKind.u64.wrap ((IntKind.u64.wrap ((0:Int)-IntKind.u64.wrap n)).tdiv (16777216:Int))).tdiv (16777216:Int)))∧IntKind.i64.wrap (IntKind.u64.wrap ((IntKind.u64.wrap ((IntKind.u64.wrap ((0:Int)-IntKind.u64.wrap n)).tdiv (16777216:Int))).tdiv (16777216:Int)))<(16777216:Int))(o7:[MV.cv (CV.lit (Value.int IntKind.i64 (IntKind.i64.wrap ((IntKind.u64.wrap ((0:Int)-IntKind.u64.wrap n)).tmod (16777216:Int))))),MV.cv (CV.lit (Value.int IntKind.i64 (IntKind.i64.wrap ((IntKind.u64.wrap ((IntKind.u64.wrap ((0:Int)-IntKind.u64.wrap n)).tdiv (16777216:Int))).tmod (16777216:Int))))),MV.cv (CV.lit (Value.int IntKind.i64 (IntKind.i64.wrap (IntKind.u64.wrap ((IntKind.u64.wrap ((IntKind.u64.wrap ((0:Int)-IntKind.u64.wrap n)).tdiv (16777216:Int))).tdiv (16777216:Int))))))]=[MV.cv (CV.lit (Value.int IntKind.i64 (IntKind.i64.wrap ((IntKind.u64.wrap ((0:Int)-IntKind.u64.wrap n)).tmod (16777216:Int))))),MV.cv (CV.lit (Value.int IntKind.i64 (IntKind.i64.wrap ((IntKind.u64.wrap ((IntKind.u64.wrap ((0:Int)-IntKind.u64.wrap n)).tdiv (16777216:Int))).tmod (16777216:Int))))),MV.cv (CV.lit (Value.int IntKind.i64 (IntKind.i64.wrap (IntKind.u64.wrap ((IntKind.u64.wrap ((IntKind.u64.wrap ((0:Int)-IntKind.u64.wrap n)).tdiv (16777216:Int))).tdiv (16777216:Int))))))]):PCall P (131:FuncId) [j6 n] (CV.agg [CV.lit (Value.bool (decide ((if decide (n<(0:Int))=true then-(IntKind.i64.wrap ((IntKind.u64.wrap ((0:Int)-IntKind.u64.wrap n)).tmod (16777216:Int))+(16777216:Int)*(IntKind.i64.wrap ((IntKind.u64.wrap ((IntKind.u64.wrap ((0:Int)-IntKind.u64.wrap n)).tdiv (16777216:Int))).tmod (16777216:Int))+(16777216:Int)*IntKind.i64.wrap (IntKind.u64.wrap ((IntKind.u64.wrap ((IntKind.u64.wrap ((0:Int)-IntKind.u64.wrap n)).tdiv (16777216:Int))).tdiv (16777216:Int)))))else IntKind.i64.wrap ((IntKind.u64.wrap ((0:Int)-IntKind.u64.wrap n)).tmod (16777216:Int))+(16777216:Int)*(IntKind.i64.wrap ((IntKind.u64.wrap ((IntKind.u64.wrap ((0:Int)-IntKind.u64.wrap n)).tdiv (16777216:Int))).tmod (16777216:Int))+(16777216:Int)*IntKind.i64.wrap (IntKind.u64.wrap ((IntKind.u64.wrap ((IntKind.u64.wrap ((0:Int)-IntKind.u64.wrap n)).tdiv (16777216:Int))).tdiv (16777216:Int)))))<(0:Int)))),CV.lit (Value.string (bytesOf (if decide (n<(0:Int))=true then-(IntKind.i64.wrap ((IntKind.u64.wrap ((0:Int)-IntKind.u64.wrap n)).tmod (16777216:Int))+(16777216:Int)*(IntKind.i64.wrap ((IntKind.u64.wrap ((IntKind.u64.wrap ((0:Int)-IntKind.u64.wrap n)).tdiv (16777216:Int))).tmod (16777216:Int))+(16777216:Int)*IntKind.i64.wrap (IntKind.u64.wrap ((IntKind.u64.wrap ((IntKind.u64.wrap ((0:Int)-IntKind.u64.wrap n)).tdiv (16777216:Int))).tdiv (16777216:Int)))))else IntKind.i64.wrap ((IntKind.u64.wrap ((0:Int)-IntKind.u64.wrap n)).tmod (16777216:Int))+(16777216:Int)*(IntKind.i64.wrap ((IntKind.u64.wrap ((IntKind.u64.wrap ((0:Int)-IntKind.u64.wrap n)).tdiv (16777216:Int))).tmod (16777216:Int))+(16777216:Int)*IntKind.i64.wrap (IntKind.u64.wrap ((IntKind.u64.wrap ((IntKind.u64.wrap ((0:Int)-IntKind.u64.wrap n)).tdiv (16777216:Int))).tdiv (16777216:Int))))).natAbs))]):=
 j4 (.b 6 h1 (.c (show(16777216:Int)≠(0:Int)from(by decide)) (.c (show(16777216:Int)≠(0:Int)from(by decide)) (.c (show(16777216:Int)≠(0:Int)from(by decide)) (.c (show(16777216:Int)≠(0:Int)from(by decide)) (.c (show(16777216:Int)≠(0:Int)from(by decide)) (.c (Go.Fw.RSg3 (decide (n<(0:Int))) (IntKind.i64.wrap ((IntKind.u64.wrap ((0:Int)-IntKind.u64.wrap n)).tmod (16777216:Int))) (IntKind.i64.wrap ((IntKind.u64.wrap ((IntKind.u64.wrap ((0:Int)-IntKind.u64.wrap n)).tdiv (16777216:Int))).tmod (16777216:Int))) (IntKind.i64.wrap (IntKind.u64.wrap ((IntKind.u64.wrap ((IntKind.u64.wrap ((0:Int)-IntKind.u64.wrap n)).tdiv (16777216:Int))).tdiv (16777216:Int)))) s24_0 s24_1 s24_2) (.c o7 (.c (show 2≤2 from(by decide)) (.o 24 (Or.k (CV.agg [CV.lit (Value.bool (decide ((if decide (n<(0:Int))=true then-(IntKind.i64.wrap ((IntKind.u64.wrap ((0:Int)-IntKind.u64.wrap n)).tmod (16777216:Int))+(16777216:Int)*(IntKind.i64.wrap ((IntKind.u64.wrap ((IntKind.u64.wrap ((0:Int)-IntKind.u64.wrap n)).tdiv (16777216:Int))).tmod (16777216:Int))+(16777216:Int)*IntKind.i64.wrap (IntKind.u64.wrap ((IntKind.u64.wrap ((IntKind.u64.wrap ((0:Int)-IntKind.u64.wrap n)).tdiv (16777216:Int))).tdiv (16777216:Int)))))else IntKind.i64.wrap ((IntKind.u64.wrap ((0:Int)-IntKind.u64.wrap n)).tmod (16777216:Int))+(16777216:Int)*(IntKind.i64.wrap ((IntKind.u64.wrap ((IntKind.u64.wrap ((0:Int)-IntKind.u64.wrap n)).tdiv (16777216:Int))).tmod (16777216:Int))+(16777216:Int)*IntKind.i64.wrap (IntKind.u64.wrap ((IntKind.u64.wrap ((IntKind.u64.wrap ((0:Int)-IntKind.u64.wrap n)).tdiv (16777216:Int))).tdiv (16777216:Int)))))<(0:Int)))),CV.lit (Value.string (bytesOf (if decide (n<(0:Int))=true then-(IntKind.i64.wrap ((IntKind.u64.wrap ((0:Int)-IntKind.u64.wrap n)).tmod (16777216:Int))+(16777216:Int)*(IntKind.i64.wrap ((IntKind.u64.wrap ((IntKind.u64.wrap ((0:Int)-IntKind.u64.wrap n)).tdiv (16777216:Int))).tmod (16777216:Int))+(16777216:Int)*IntKind.i64.wrap (IntKind.u64.wrap ((IntKind.u64.wrap ((IntKind.u64.wrap ((0:Int)-IntKind.u64.wrap n)).tdiv (16777216:Int))).tdiv (16777216:Int)))))else IntKind.i64.wrap ((IntKind.u64.wrap ((0:Int)-IntKind.u64.wrap n)).tmod (16777216:Int))+(16777216:Int)*(IntKind.i64.wrap ((IntKind.u64.wrap ((IntKind.u64.wrap ((0:Int)-IntKind.u64.wrap n)).tdiv (16777216:Int))).tmod (16777216:Int))+(16777216:Int)*IntKind.i64.wrap (IntKind.u64.wrap ((IntKind.u64.wrap ((IntKind.u64.wrap ((0:Int)-IntKind.u64.wrap n)).tdiv (16777216:Int))).tdiv (16777216:Int))))).natAbs))]) [[CV.lit (Value.int IntKind.i64 (IntKind.i64.wrap ((IntKind.u64.wrap ((0:Int)-IntKind.u64.wrap n)).tmod (16777216:Int)))),CV.lit (Value.int IntKind.i64 (IntKind.i64.wrap ((IntKind.u64.wrap ((IntKind.u64.wrap ((0:Int)-IntKind.u64.wrap n)).tdiv (16777216:Int))).tmod (16777216:Int)))),CV.lit (Value.int IntKind.i64 (IntKind.i64.wrap (IntKind.u64.wrap ((IntKind.u64.wrap ((IntKind.u64.wrap ((0:Int)-IntKind.u64.wrap n)).tdiv (16777216:Int))).tdiv (16777216:Int)))))]]) .nil)))))))))) (by kernel_rfl)
theorem zpu(n:Int)(h1:decide (n<(0:Int))=false)(s21_0:(0:Int)≤IntKind.i64.wrap ((IntKind.u64.wrap n).tmod (16777216:Int))∧IntKind.i64.wrap ((IntKind.u64.wrap n).tmod (16777216:Int))<(16777216:Int))(s21_1:(0:Int)≤IntKind.i64.wrap ((IntKind.u64.wrap ((IntKind.u64.wrap n).tdiv (16777216:Int))).tmod (16777216:Int))∧IntKind.i64.wrap ((IntKind.u64.wrap ((IntKind.u64.wrap n).tdiv (16777216:Int))).tmod (16777216:Int))<(16777216:Int))(s21_2:(0:Int)≤IntKind.i64.wrap (IntKind.u64.wrap ((IntKind.u64.wrap ((IntKind.u64.wrap n).tdiv (16777216:Int))).tdiv (16777216:Int)))∧IntKind.i64.wrap (IntKind.u64.wrap ((IntKind.u64.wrap ((IntKind.u64.wrap n).tdiv (16777216:Int))).tdiv (16777216:Int)))<(16777216:Int))(o7:[MV.cv (CV.lit (Value.int IntKind.i64 (IntKind.i64.wrap ((IntKind.u64.wrap n).tmod (16777216:Int))))),MV.cv (CV.lit (Value.int IntKind.i64 (IntKind.i64.wrap ((IntKind.u64.wrap ((IntKind.u64.wrap n).tdiv (16777216:Int))).tmod (16777216:Int))))),MV.cv (CV.lit (Value.int IntKind.i64 (IntKind.i64.wrap (IntKind.u64.wrap ((IntKind.u64.wrap ((IntKind.u64.wrap n).tdiv (16777216:Int))).tdiv (16777216:Int))))))]=[MV.cv (CV.lit (Value.int IntKind.i64 (IntKind.i64.wrap ((IntKind.u64.wrap n).tmod (16777216:Int))))),MV.cv (CV.lit (Value.int IntKind.i64 (IntKind.i64.wrap ((IntKind.u64.wrap ((IntKind.u64.wrap n).tdiv (16777216:Int))).tmod (16777216:Int))))),MV.cv (CV.lit (Value.int IntKind.i64 (IntKind.i64.wrap (IntKind.u64.wrap ((IntKind.u64.wrap ((IntKind.u64.wrap n).tdiv (16777216:Int))).tdiv (16777216:Int))))))]):PCall P (131:FuncId) [j6 n] (CV.agg [CV.lit (Value.bool (decide ((if decide (n<(0:Int))=true then-(IntKind.i64.wrap ((IntKind.u64.wrap n).tmod (16777216:Int))+(16777216:Int)*(IntKind.i64.wrap ((IntKind.u64.wrap ((IntKind.u64.wrap n).tdiv (16777216:Int))).tmod (16777216:Int))+(16777216:Int)*IntKind.i64.wrap (IntKind.u64.wrap ((IntKind.u64.wrap ((IntKind.u64.wrap n).tdiv (16777216:Int))).tdiv (16777216:Int)))))else IntKind.i64.wrap ((IntKind.u64.wrap n).tmod (16777216:Int))+(16777216:Int)*(IntKind.i64.wrap ((IntKind.u64.wrap ((IntKind.u64.wrap n).tdiv (16777216:Int))).tmod (16777216:Int))+(16777216:Int)*IntKind.i64.wrap (IntKind.u64.wrap ((IntKind.u64.wrap ((IntKind.u64.wrap n).tdiv (16777216:Int))).tdiv (16777216:Int)))))<(0:Int)))),CV.lit (Value.string (bytesOf (if decide (n<(0:Int))=true then-(IntKind.i64.wrap ((IntKind.u64.wrap n).tmod (16777216:Int))+(16777216:Int)*(IntKind.i64.wrap ((IntKind.u64.wrap ((IntKind.u64.wrap n).tdiv (16777216:Int))).tmod (16777216:Int))+(16777216:Int)*IntKind.i64.wrap (IntKind.u64.wrap ((IntKind.u64.wrap ((IntKind.u64.wrap n).tdiv (16777216:Int))).tdiv (16777216:Int)))))else IntKind.i64.wrap ((IntKind.u64.wrap n).tmod (16777216:Int))+(16777216:Int)*(IntKind.i64.wrap ((IntKind.u64.wrap ((IntKind.u64.wrap n).tdiv (16777216:Int))).tmod (16777216:Int))+(16777216:Int)*IntKind.i64.wrap (IntKind.u64.wrap ((IntKind.u64.wrap ((IntKind.u64.wrap n).tdiv (16777216:Int))).tdiv (16777216:Int))))).natAbs))]):=
 j4 (.b 6 h1 (.c (show(16777216:Int)≠(0:Int)from(by decide)) (.c (show(16777216:Int)≠(0:Int)from(by decide)) (.c (show(16777216:Int)≠(0:Int)from(by decide)) (.c (show(16777216:Int)≠(0:Int)from(by decide)) (.c (show(16777216:Int)≠(0:Int)from(by decide)) (.c (Go.Fw.RSg3 (decide (n<(0:Int))) (IntKind.i64.wrap ((IntKind.u64.wrap n).tmod (16777216:Int))) (IntKind.i64.wrap ((IntKind.u64.wrap ((IntKind.u64.wrap n).tdiv (16777216:Int))).tmod (16777216:Int))) (IntKind.i64.wrap (IntKind.u64.wrap ((IntKind.u64.wrap ((IntKind.u64.wrap n).tdiv (16777216:Int))).tdiv (16777216:Int)))) s21_0 s21_1 s21_2) (.c o7 (.c (show 2≤2 from(by decide)) (.o 21 (Or.k (CV.agg [CV.lit (Value.bool (decide ((if decide (n<(0:Int))=true then-(IntKind.i64.wrap ((IntKind.u64.wrap n).tmod (16777216:Int))+(16777216:Int)*(IntKind.i64.wrap ((IntKind.u64.wrap ((IntKind.u64.wrap n).tdiv (16777216:Int))).tmod (16777216:Int))+(16777216:Int)*IntKind.i64.wrap (IntKind.u64.wrap ((IntKind.u64.wrap ((IntKind.u64.wrap n).tdiv (16777216:Int))).tdiv (16777216:Int)))))else IntKind.i64.wrap ((IntKind.u64.wrap n).tmod (16777216:Int))+(16777216:Int)*(IntKind.i64.wrap ((IntKind.u64.wrap ((IntKind.u64.wrap n).tdiv (16777216:Int))).tmod (16777216:Int))+(16777216:Int)*IntKind.i64.wrap (IntKind.u64.wrap ((IntKind.u64.wrap ((IntKind.u64.wrap n).tdiv (16777216:Int))).tdiv (16777216:Int)))))<(0:Int)))),CV.lit (Value.string (bytesOf (if decide (n<(0:Int))=true then-(IntKind.i64.wrap ((IntKind.u64.wrap n).tmod (16777216:Int))+(16777216:Int)*(IntKind.i64.wrap ((IntKind.u64.wrap ((IntKind.u64.wrap n).tdiv (16777216:Int))).tmod (16777216:Int))+(16777216:Int)*IntKind.i64.wrap (IntKind.u64.wrap ((IntKind.u64.wrap ((IntKind.u64.wrap n).tdiv (16777216:Int))).tdiv (16777216:Int)))))else IntKind.i64.wrap ((IntKind.u64.wrap n).tmod (16777216:Int))+(16777216:Int)*(IntKind.i64.wrap ((IntKind.u64.wrap ((IntKind.u64.wrap n).tdiv (16777216:Int))).tmod (16777216:Int))+(16777216:Int)*IntKind.i64.wrap (IntKind.u64.wrap ((IntKind.u64.wrap ((IntKind.u64.wrap n).tdiv (16777216:Int))).tdiv (16777216:Int))))).natAbs))]) [[CV.lit (Value.int IntKind.i64 (IntKind.i64.wrap ((IntKind.u64.wrap n).tmod (16777216:Int)))),CV.lit (Value.int IntKind.i64 (IntKind.i64.wrap ((IntKind.u64.wrap ((IntKind.u64.wrap n).tdiv (16777216:Int))).tmod (16777216:Int)))),CV.lit (Value.int IntKind.i64 (IntKind.i64.wrap (IntKind.u64.wrap ((IntKind.u64.wrap ((IntKind.u64.wrap n).tdiv (16777216:Int))).tdiv (16777216:Int)))))]]) .nil)))))))))) (by kernel_rfl)
end Go.Fw
open Go
namespace Go.Fw
theorem z7J {U : Int} (h : 0 ≤ U ∧ U ≤ 9223372036854775808) : IntKind.i64.wrap (U.tmod 16777216) = U % 16777216 ∧ IntKind.u64.wrap (U.tdiv 16777216) = U / 16777216 ∧ IntKind.i64.wrap ((U / 16777216).tmod 16777216) = U / 16777216 % 16777216 ∧
    IntKind.i64.wrap (IntKind.u64.wrap ((U/16777216).tdiv 16777216))=U/16777216/16777216:=by
 rw[Int.tmod_eq_emod_of_nonneg h.1,Int.tdiv_eq_ediv_of_nonneg h.1,Int.tmod_eq_emod_of_nonneg (by omega),Int.tdiv_eq_ediv_of_nonneg (by omega),z1z,z1z,w64 (by omega),w64 (by omega),w64 (by omega)]
 omega
theorem X9(n:Int)(h: -9223372036854775808≤n∧n≤9223372036854775807):PCall P 131 [j6 n] (J6 n):=by
 cases h1:decide (n<0)with
 |true=>
  have h1':=of_decide_eq_true h1
  have hu:IntKind.u64.wrap (0-IntKind.u64.wrap n)= -n:=by rw[z1z,z1z];omega
  obtain⟨d1,d2,d3,d4⟩:=z7J (U:= -n) (by omega)
  refine(zox n h1 (by rw[hu,d1];omega) (by rw[hu,d2,d3];omega) (by rw[hu,d2,d4];omega) rfl).eq ?_
  rw[hu,d1,d2,d3,d4]
  show J6 _=J6 n
  congr 1
  rw[if_pos (by simpa using h1')];omega
 |false=>
  have h1':=of_decide_eq_false h1
  have hu:IntKind.u64.wrap n=n:=by rw[z1z];omega
  obtain⟨d1,d2,d3,d4⟩:=z7J (U:=n) (by omega)
  refine(zpu n h1 (by rw[hu,d1];omega) (by rw[hu,d2,d3];omega) (by rw[hu,d2,d4];omega) rfl).eq ?_
  rw[hu,d1,d2,d3,d4]
  show J6 _=J6 n
  congr 1
  rw[if_neg (by simpa using h1')];omega
end Go.Fw
open Go IntKind
namespace Go.Fw
set_option maxRecDepth 100000
theorem zhw(z:Int)(h1:decide ((↑(bytesOf z.natAbs).size:Int)>8)=false){R:CV→Prop}(hR:Ok P 236 (loopHead P 236 0) ⟨J3 52 [(1,.ptr 0 0),(4,.cv (.lit (.int .u64 0))),(5,.cv (.lit (.int .i64 0)))],[some [.cv (.lit (.bool (decide (z<0)))),.cv (.lit (.string (bytesOf z.natAbs)))]]⟩ (.of R)):X5 P 236 [J6 z] R:=
 Y9 (keep:=[1,4,5]) (σ:=[0]) (.r 4 (J4 (z)) (.b 12 h1 (.o 15 .stop .nil))) (by kernel_rfl) rfl hR (.cons (by simp[CvL]) .nil)
theorem zgp(b:Bool)(s:ByteArray)(i u:Nat)(h:decide ((i:Int)<(↑s.size:Int))=true)(o2:(0:Int)≤i∧(i:Int)<(↑s.size:Int)){R:Goal}(hn:J0 R.n [0]=true)(hR:Ok P 236 (loopHead P 236 0) ⟨J3 52 [(1,.ptr 0 0),(4,.cv (.lit (.int .u64 (u64.wrap (u64.wrap ((u:Int)*256)+u64.wrap (↑(s.data.getD (i:Int).toNat (OfNat.ofNat 0)).toNat:Int)))))),(5,.cv (.lit (.int .i64 (i64.wrap ((i:Int)+1)))))],[some [.cv (.lit (.bool b)),.cv (.lit (.string s))]]⟩ R):Ok P 236 (loopHead P 236 0) ⟨J3 52 [(1,.ptr 0 0),(4,.cv (.lit (.int .u64 (u:Int)))),(5,.cv (j6 (i:Int)))],[some [.cv (.lit (.bool b)),.cv (.lit (.string s))]]⟩ R:=
 z0W (keep:=[1,4,5]) (σ:=[0]) (.b 6 h (.c (nn 8) (.c o2 (.o 19 .stop .nil)))) (by kernel_rfl) rfl hn hR (.cons (by simp[CvL]) .nil)
end Go.Fw
open Go IntKind
namespace Go.Fw
set_option maxRecDepth 100000
theorem zeA(s:ByteArray)(i:Nat)(u:Int)(h:decide ((i:Int)<(↑s.size:Int))=false)(h2:decide (u<9223372036854775808)=true){R:Goal}(hR:R.c (.tup [.lit (.int .i64 (i64.wrap u)),.lit (.bool true)])):Ok P 236 (loopHead P 236 0) ⟨J3 52 [(1,.ptr 0 0),(4,.cv (.lit (.int .u64 u))),(5,.cv (j6 (i:Int)))],[some [.cv (.lit (.bool false)),.cv (.lit (.string s))]]⟩ R:=
 okT (.b 6 h (.b 23 h2 .nil)) (by kernel_rfl) hR
theorem zeT(s:ByteArray)(i:Nat)(u:Int)(h:decide ((i:Int)<(↑s.size:Int))=false)(h2:decide (u≤9223372036854775808)=true){R:Goal}(hR:R.c (.tup [.lit (.int .i64 (i64.wrap (i64.wrap ((0:Int)-i64.wrap (u64.wrap (u-1)))-1))),.lit (.bool true)])):Ok P 236 (loopHead P 236 0) ⟨J3 52 [(1,.ptr 0 0),(4,.cv (.lit (.int .u64 u))),(5,.cv (j6 (i:Int)))],[some [.cv (.lit (.bool true)),.cv (.lit (.string s))]]⟩ R:=
 okT (.b 6 h (.b 14 h2 .nil)) (by kernel_rfl) hR
end Go.Fw
open Go
namespace Go.Fw
theorem z4h(s:ByteArray){i:Nat}(h:i<s.size):(s.data.getD i (OfNat.ofNat 0)).toNat=J7 s/256^(s.size-1-i)%256:=by
 have:=z7B s (i:=s.size-1-i) (by omega)
 rw[show s.size-1-(s.size-1-i)=i by omega]at this
 refine this.symm.trans ?_
 have hd:=z1A s
 conv=>lhs;rw[←z0A (by decide) (z2u s) hd]
 rw[W9 _ _ _ _ (by rw[V9];omega)];rfl
theorem z8I {R : Goal} (hn : R.n = 0) (b : Bool) (s : ByteArray) (hs : s.size ≤ 8)
    (hR:Ok P 236 (loopHead P 236 0) ⟨J3 52 [(1,.ptr 0 0),(4,.cv (.lit (.int .u64 (J7 s:Nat)))),(5,.cv (j6 s.size))],[some [.cv (.lit (.bool b)),.cv (.lit (.string s))]]⟩ R): ∀(d i:Nat),i+d=s.size→
    Ok P 236 (loopHead P 236 0) ⟨J3 52 [(1,.ptr 0 0),(4,.cv (.lit (.int .u64 (J7 s/256^(s.size-i):Nat)))),(5,.cv (j6 i))],[some [.cv (.lit (.bool b)),.cv (.lit (.string s))]]⟩ R
 |0,i,hi=>by
  have:i=s.size:=by omega
  subst this
  simpa using hR
 |d+1,i,hi=>by
  refine zgp b s i _ (decide_eq_true (by omega)) (by omega) (by rw[hn];rfl) ?_
  have hb:=z4h s (i:=i) (by omega)
  have hV:J7 s<18446744073709551616:=Nat.lt_of_lt_of_le (z0t s) (Nat.pow_le_pow_right (by decide) hs)
  have hstep:J7 s/256^(s.size-(i+1))=J7 s/256^(s.size-i)*256+J7 s/256^(s.size-1-i)%256:=by
   rw[show s.size-i=(s.size-1-i)+1 by omega,Nat.pow_succ,←Nat.div_div_eq_div_mul,show s.size-(i+1)=s.size-1-i by omega]
   omega
  have hle:=Nat.div_le_self (J7 s) (256^(s.size-(i+1)))
  have ih:=z8I hn b s hs hR d (i+1) (by omega)
  rw[hstep]at ih hle
  rw[Int.toNat_natCast,hb,z1z,z1z,z1z,w64 (by omega)]
  generalize J7 s/256^(s.size-i)=A at ih hle ⊢
  generalize J7 s/256^(s.size-1-i)%256=B at ih hle ⊢
  rw[show((A:Int)*256%18446744073709551616+(B:Int)%18446744073709551616)%18446744073709551616=((A*256+B:Nat):Int) by omega]
  exact ih
end Go.Fw
open Go
namespace Go.Fw
theorem V5{n k:Nat}:(bytesOf n).size≤k↔n<256^k:=by rw[z1D];exact z3r (by decide)
theorem zcZ(z:Int)(h: -9223372036854775808<z∧z<9223372036854775808):PCall P 236 [J6 z] (.tup [j6 z,.lit (.bool true)]):=by
 have hs:(bytesOf z.natAbs).size≤8:=V5.2 (by omega)
 refine zhw z (decide_eq_false (by omega)) (R := (· = _)) ?_
 have hv:J7 (bytesOf z.natAbs)=z.natAbs:=U6 _
 have := z8I (R := (· = CV.tup [j6 z, .lit (.bool true)])) rfl (decide (z < 0)) (bytesOf z.natAbs) hs ?_ (bytesOf z.natAbs).size 0 (by omega)
 · have e:J7 (bytesOf z.natAbs)/256^((bytesOf z.natAbs).size-0)=0:=Nat.div_eq_of_lt (z0t _)
   rw[e]at this
   exact this
 · rw[hv]
   by_cases hz:z<0
   · rw[decide_eq_true hz]
     refine zeT _ _ _ (decide_eq_false (by omega)) (decide_eq_true (by omega)) ?_
     show CV.tup _=CV.tup _
     rw[z1z,w64 (n:=((z.natAbs:Int)-1)%18446744073709551616) (by omega),w64 (n:=0-((z.natAbs:Int)-1)%18446744073709551616) (by omega),w64 (by omega)]
     congr 4;omega
   · rw[decide_eq_false hz]
     refine zeA _ _ _ (decide_eq_false (by omega)) (decide_eq_true (by omega)) ?_
     show CV.tup _=CV.tup _
     rw[w64 (by omega)]
     congr 4;omega
end Go.Fw
open Go IntKind
namespace Go.Fw
set_option maxRecDepth 100000
theorem zjL(z:Int)(h1:decide ((↑(bytesOf z.natAbs).size:Int)>8)=true):PCall P 217 [J6 z] (.tup [.lit (.int .i64 0),.lit (.bool false)]):=
 j4 (.r 4 (Q8 (z)) (.b 12 h1 .nil)) (by kernel_rfl)
theorem zhL(z:Int)(h1:decide ((↑(bytesOf z.natAbs).size:Int)>8)=false){R:CV→Prop}(hR:Ok P 217 (loopHead P 217 0) ⟨J3 50 [(1,.ptr 0 0),(4,.cv (.lit (.int .u64 0))),(17,.cv (.lit (.int .i64 (↑(bytesOf z.natAbs).size:Int)))),(18,.cv (.lit (.int .i64 0)))],[some [.cv (.lit (.bool (decide (z<0)))),.cv (.lit (.string (bytesOf z.natAbs)))]]⟩ (.of R)):X5 P 217 [J6 z] R:=
 Y9 (keep:=[1,4,17,18]) (σ:=[0]) (.r 4 (Q8 (z)) (.b 12 h1 (.o 18 .stop .nil))) (by kernel_rfl) rfl hR (.cons (by simp[CvL]) .nil)
theorem zoK(a b:Int){R:CV→Prop}(hR:Ok P 164 (loopHead P 164 0) ⟨J3 12 [(0,.cv (.lit (.int .i64 a))),(1,.cv (.lit (.int .i64 b)))],[]⟩ (.of R)):X5 P 164 [j6 a,j6 b] R:=
 Y9 (keep:=[0,1]) (σ:=[]) (.o 1 .stop .nil) (by kernel_rfl) rfl hR .nil
theorem ziU(a b:Int)(h1:(b != 0)=true)(o1:b≠0){R:Goal}(hn:J0 R.n []=true)(hR:Ok P 164 (loopHead P 164 0) ⟨J3 12 [(0,.cv (.lit (.int .i64 b))),(1,.cv (.lit (.int .i64 (a.tmod b))))],[]⟩ R):Ok P 164 (loopHead P 164 0) ⟨J3 12 [(0,.cv (j6 a)),(1,.cv (j6 b))],[]⟩ R:=
 z0W (keep:=[0,1]) (σ:=[]) (.b 3 h1 (.c o1 (.o 10 .stop .nil))) (by kernel_rfl) rfl hn hR .nil
theorem zhY(a b:Int)(h1:(b != 0)=false){R:Goal}(hR:R.c (.lit (.int .i64 a))):Ok P 164 (loopHead P 164 0) ⟨J3 12 [(0,.cv (j6 a)),(1,.cv (j6 b))],[]⟩ R:=
 okT (.b 3 h1 .nil) (by kernel_rfl) hR
theorem zfp(b:Bool)(s:ByteArray)(i:Nat)(u:Int)(h:decide ((i:Int)<(↑s.size:Int))=true)(o2:(0:Int)≤i∧(i:Int)<(↑s.size:Int)){R:Goal}(hn:J0 R.n [0]=true)(hR:Ok P 217 (loopHead P 217 0) ⟨J3 50 [(1,.ptr 0 0),(4,.cv (.lit (.int .u64 (X7 BinOp.or u64 (u64.wrap (u*256)) (u64.wrap (↑(s.data.getD (i:Int).toNat (OfNat.ofNat 0)).toNat:Int)))))),(17,.cv (.lit (.int .i64 (↑s.size:Int)))),(18,.cv (.lit (.int .i64 (i64.wrap ((i:Int)+1)))))],[some [.cv (.lit (.bool b)),.cv (.lit (.string s))]]⟩ R):Ok P 217 (loopHead P 217 0) ⟨J3 50 [(1,.ptr 0 0),(4,.cv (.lit (.int .u64 u))),(17,.cv (j6 (↑s.size:Int))),(18,.cv (j6 (i:Int)))],[some [.cv (.lit (.bool b)),.cv (.lit (.string s))]]⟩ R:=
 z0W (keep:=[1,4,17,18]) (σ:=[0]) (.b 2 h (.c (nn 8) (.c o2 (.o 16 .stop .nil)))) (by kernel_rfl) rfl hn hR (.cons (by simp[CvL]) .nil)
theorem zfx(s:ByteArray)(i:Nat)(u:Int)(h:decide ((i:Int)<(↑s.size:Int))=false)(h1:decide (u≤9223372036854775808)=true){R:Goal}(hR:R.c (.tup [.lit (.int .i64 (i64.wrap (u64.wrap ((0:Int)-u)))),.lit (.bool true)])):Ok P 217 (loopHead P 217 0) ⟨J3 50 [(1,.ptr 0 0),(4,.cv (.lit (.int .u64 u))),(17,.cv (j6 (↑s.size:Int))),(18,.cv (j6 (i:Int)))],[some [.cv (.lit (.bool true)),.cv (.lit (.string s))]]⟩ R:=
 okT (.b 2 h (.b 10 h1 .nil)) (by kernel_rfl) hR
theorem zgq(s:ByteArray)(i:Nat)(u:Int)(h:decide ((i:Int)<(↑s.size:Int))=false)(h1:decide (u≤9223372036854775808)=false){R:Goal}(hR:R.c (.tup [.lit (.int .i64 0),.lit (.bool false)])):Ok P 217 (loopHead P 217 0) ⟨J3 50 [(1,.ptr 0 0),(4,.cv (.lit (.int .u64 u))),(17,.cv (j6 (↑s.size:Int))),(18,.cv (j6 (i:Int)))],[some [.cv (.lit (.bool true)),.cv (.lit (.string s))]]⟩ R:=
 okT (.b 2 h (.b 10 h1 .nil)) (by kernel_rfl) hR
theorem zeY(s:ByteArray)(i:Nat)(u:Int)(h:decide ((i:Int)<(↑s.size:Int))=false)(h1:decide (u<9223372036854775808)=true){R:Goal}(hR:R.c (.tup [.lit (.int .i64 (i64.wrap u)),.lit (.bool true)])):Ok P 217 (loopHead P 217 0) ⟨J3 50 [(1,.ptr 0 0),(4,.cv (.lit (.int .u64 u))),(17,.cv (j6 (↑s.size:Int))),(18,.cv (j6 (i:Int)))],[some [.cv (.lit (.bool false)),.cv (.lit (.string s))]]⟩ R:=
 okT (.b 2 h (.b 19 h1 .nil)) (by kernel_rfl) hR
theorem zeJ(s:ByteArray)(i:Nat)(u:Int)(h:decide ((i:Int)<(↑s.size:Int))=false)(h1:decide (u<9223372036854775808)=false){R:Goal}(hR:R.c (.tup [.lit (.int .i64 0),.lit (.bool false)])):Ok P 217 (loopHead P 217 0) ⟨J3 50 [(1,.ptr 0 0),(4,.cv (.lit (.int .u64 u))),(17,.cv (j6 (↑s.size:Int))),(18,.cv (j6 (i:Int)))],[some [.cv (.lit (.bool false)),.cv (.lit (.string s))]]⟩ R:=
 okT (.b 2 h (.b 19 h1 .nil)) (by kernel_rfl) hR
end Go.Fw
open Go
namespace Go.Fw
set_option maxRecDepth 100000
theorem ze2 {R : Goal} (f : FuncId) (hf : ∀ (a b : Nat), 0 < b → Ok P f (loopHead P f 0) ⟨J3 12 [(0, .cv (j6 b)), (1, .cv (j6 (a % b : Nat)))], []⟩ R → Ok P f (loopHead P f 0) ⟨J3 12 [(0, .cv (j6 a)), (1, .cv (j6 b))], []⟩ R)
    (h0: ∀a:Nat,R.c (j6 a)→Ok P f (loopHead P f 0) ⟨J3 12 [(0,.cv (j6 a)),(1,.cv (j6 (0:Nat)))],[]⟩ R):
    ∀(b a:Nat),R.c (j6 (Nat.gcd a b))→Ok P f (loopHead P f 0) ⟨J3 12 [(0,.cv (j6 a)),(1,.cv (j6 b))],[]⟩ R:=by
 intro b
 induction b using Nat.strongRecOn with
 |ind b ih=>
  intro a hR
  rcases Nat.eq_zero_or_pos b with rfl|hb
  · exact h0 a (by rwa[Nat.gcd_zero_right]at hR)
  · refine hf a b hb (ih (a%b) (Nat.mod_lt _ hb) b ?_)
    rw[Nat.gcd_comm b,←Nat.gcd_rec,Nat.gcd_comm];exact hR
theorem ziV{b:Nat}(h:0<b):((b:Int) != 0)=true:=by
 unfold bne
 rw[show((b:Int)==0)=false from by cases e:(b:Int)==0;rfl;exact absurd (beq_iff_eq.1 e) (by omega)];rfl
theorem zlz(a b:Int)(ha:0≤a)(hb:0≤b):PCall P 164 [j6 a,j6 b] (j6 (Nat.gcd a.natAbs b.natAbs)):=by
 obtain⟨x,rfl⟩:=Int.eq_ofNat_of_zero_le ha
 obtain⟨y,rfl⟩:=Int.eq_ofNat_of_zero_le hb
 refine zoK x y (R := (· = _)) (ze2 164 (fun a b hb h => ziU a b (ziV hb) (by omega) rfl h) (fun a h => zhY a 0 rfl h) y x ?_)
 rfl
def z0D(z:Int):Int×Bool:=if-9223372036854775808≤z∧z<9223372036854775808 then(z,true)else(0,false)
theorem z83 {R : Goal} (hn : R.n = 0) (b : Bool) (s : ByteArray) (hs : s.size ≤ 8)
    (hR:Ok P 217 (loopHead P 217 0) ⟨J3 50 [(1,.ptr 0 0),(4,.cv (.lit (.int .u64 (J7 s:Nat)))),(17,.cv (j6 s.size)),(18,.cv (j6 s.size))],[some [.cv (.lit (.bool b)),.cv (.lit (.string s))]]⟩ R): ∀(d i:Nat),i+d=s.size→
    Ok P 217 (loopHead P 217 0) ⟨J3 50 [(1,.ptr 0 0),(4,.cv (.lit (.int .u64 (J7 s/256^(s.size-i):Nat)))),(17,.cv (j6 s.size)),(18,.cv (j6 i))],[some [.cv (.lit (.bool b)),.cv (.lit (.string s))]]⟩ R
 |0,i,hi=>by
  have:i=s.size:=by omega
  subst this
  simpa using hR
 |d+1,i,hi=>by
  refine zfp b s i _ (decide_eq_true (by omega)) (by omega) (by rw[hn];rfl) ?_
  have hb:=z4h s (i:=i) (by omega)
  have hV:J7 s<18446744073709551616:=Nat.lt_of_lt_of_le (z0t s) (Nat.pow_le_pow_right (by decide) hs)
  have hstep:J7 s/256^(s.size-(i+1))=J7 s/256^(s.size-i)*256+J7 s/256^(s.size-1-i)%256:=by
   rw[show s.size-i=(s.size-1-i)+1 by omega,Nat.pow_succ,←Nat.div_div_eq_div_mul,show s.size-(i+1)=s.size-1-i by omega]
   omega
  have hle:=Nat.div_le_self (J7 s) (256^(s.size-(i+1)))
  have ih:=z83 hn b s hs hR d (i+1) (by omega)
  have hB:=Nat.mod_lt (J7 s/256^(s.size-1-i)) (show 256>0 by decide)
  rw[hstep]at ih hle
  rw[Int.toNat_natCast,hb,z1z,z1z,w64 (by omega)]
  generalize J7 s/256^(s.size-i)=A at ih hle ⊢
  generalize J7 s/256^(s.size-1-i)%256=B at ih hle hB ⊢
  rw[show(A:Int)*256%18446744073709551616=((A*256:Nat):Int) by omega,show(B:Int)%18446744073709551616=(B:Int) by omega,z6i (by omega) (by omega),show A*256|||B=A*256+B from z1L 8 hB]
  exact ih
theorem i64_in{z:Int}(h: -9223372036854775808≤z∧z<9223372036854775808):z0D z=(z,true):=if_pos h
theorem z9m{z:Int}(h: ¬(-9223372036854775808≤z∧z<9223372036854775808)):z0D z=(0,false):=if_neg h
theorem zrD{z:Int}(h:decide (((bytesOf z.natAbs).size:Int)>8)=true): ¬(-9223372036854775808≤z∧z<9223372036854775808):=by
 intro hz
 have hs:(bytesOf z.natAbs).size≤8:=V5.2 (by omega)
 have:=of_decide_eq_true h
 omega
theorem zgS(z:Int):PCall P 217 [J6 z] (.tup [j6 (z0D z).1,.lit (.bool (z0D z).2)]):=by
 cases hs:decide (((bytesOf z.natAbs).size:Int)>8)
 · refine zhL z hs (R := (· = _)) ?_
   have hs':(bytesOf z.natAbs).size≤8:=by have:=of_decide_eq_false hs;omega
   have hv:J7 (bytesOf z.natAbs)=z.natAbs:=U6 _
   have := z83 (R := (· = CV.tup [j6 (z0D z).1, .lit (.bool (z0D z).2)])) rfl (decide (z < 0)) (bytesOf z.natAbs) hs' ?_ (bytesOf z.natAbs).size 0 (by omega)
   · have e:J7 (bytesOf z.natAbs)/256^((bytesOf z.natAbs).size-0)=0:=Nat.div_eq_of_lt (z0t _)
     rw[e]at this
     exact this
   · rw[hv]
     by_cases hz:z<0
     · rw[decide_eq_true hz]
       by_cases h2: -9223372036854775808≤z
       · refine zfx _ _ _ (decide_eq_false (by omega)) (decide_eq_true (by omega)) ?_
         rw[i64_in (by omega)]
         show CV.tup _=CV.tup _
         rw[z1z]
         have e:IntKind.i64.wrap ((0-(z.natAbs:Int))%18446744073709551616)=z:=by rw[IntKind.wrap_i64];omega
         rw[e]
       · refine zgq _ _ _ (decide_eq_false (by omega)) (decide_eq_false (by omega)) ?_
         rw[z9m (by omega)];rfl
     · rw[decide_eq_false hz]
       by_cases h2:z<9223372036854775808
       · refine zeY _ _ _ (decide_eq_false (by omega)) (decide_eq_true (by omega)) ?_
         rw[i64_in (by omega)]
         show CV.tup _=CV.tup _
         rw[w64 (by omega)]
         congr 4;omega
       · refine zeJ _ _ _ (decide_eq_false (by omega)) (decide_eq_false (by omega)) ?_
         rw[z9m (by omega)];rfl
 · rw[z9m (zrD hs)]
   exact zjL z hs
end Go.Fw
set_option maxRecDepth 10000
open Go.Fw
namespace Go.Fw.R24
structure Guess(U V v1 v2 top u2 p:Nat):Prop where
 hp:0<p
 hU: ∃ul,ul<p∧U=(top*B24+u2)*p+ul
 hV: ∃vl,vl<p∧V=(v1*B24+v2)*p+vl
 hv1:8388608≤v1
 hv1':v1<B24
 hv2:v2<B24
 hu2:u2<B24
 hlt:U<V*B24
namespace Guess
variable{U V v1 v2 top u2 p:Nat}(g:Guess U V v1 v2 top u2 p)
include g
theorem vpos:0<V:=by
 obtain⟨vl,_,e⟩:=g.hV
 have h1:=g.hv1
 have hp:=g.hp
 have:0<(v1*B24+v2)*p:=Nat.mul_pos (by simp only[B24];omega) hp
 omega
theorem top_le:top≤v1*B24+(B24-1):=by
 obtain⟨ul,hul,eU⟩:=g.hU
 obtain⟨vl,hvl,eV⟩:=g.hV
 have hlt:=g.hlt
 have hp:=g.hp
 have hv2:=g.hv2
 have h1:top*B24*p≤U:=by rw[eU,Nat.add_mul];omega
 have h2:V<(v1+1)*B24*p:=by
  rw[eV]
  calc (v1*B24+v2)*p+vl<(v1*B24+v2)*p+p:=by omega
   _=(v1*B24+v2+1)*p:=by rw[Nat.add_mul _ 1,Nat.one_mul]
   _≤(v1+1)*B24*p:=Nat.mul_le_mul_right _ (by rw[Nat.add_mul];omega)
 have h3:top*(B24*p)<(v1+1)*B24*(B24*p):=by
  calc top*(B24*p)=top*B24*p:=(Nat.mul_assoc _ _ _).symm
   _≤U:=h1
   _<V*B24:=hlt
   _≤(v1+1)*B24*p*B24:=Nat.mul_le_mul_right _ (by omega)
   _=(v1+1)*B24*(B24*p):=by rw[Nat.mul_assoc ((v1+1)*B24),Nat.mul_comm p]
 have h4:=Nat.lt_of_mul_lt_mul_right h3
 rw[Nat.add_mul]at h4
 simp only[B24]at*;omega
theorem quot_lt:U/V<B24:=by rw[Nat.div_lt_iff_lt_mul g.vpos,Nat.mul_comm];exact g.hlt
theorem quot_le:U/V*(v1*B24+v2)≤top*B24+u2:=by
 obtain⟨ul,hul,eU⟩:=g.hU
 obtain⟨vl,hvl,eV⟩:=g.hV
 have h1:U/V*V≤U:=Nat.div_mul_le_self _ _
 have h2:U/V*(v1*B24+v2)*p<(top*B24+u2+1)*p:=by
  calc U/V*(v1*B24+v2)*p=U/V*((v1*B24+v2)*p):=Nat.mul_assoc _ _ _
   _≤U/V*V:=Nat.mul_le_mul_left _ (by omega)
   _≤U:=h1
   _<(top*B24+u2)*p+p:=by omega
   _=(top*B24+u2+1)*p:=by rw[Nat.add_mul _ 1,Nat.one_mul]
 have:=Nat.lt_of_mul_lt_mul_right h2
 exact Nat.lt_succ_iff.1 this
theorem le_succ{q:Nat}(hq:q<B24)(h:q*(v1*B24+v2)≤top*B24+u2):q≤U/V+1:=by
 obtain⟨ul,hul,eU⟩:=g.hU
 obtain⟨vl,hvl,eV⟩:=g.hV
 have hv1:=g.hv1
 have hqp:q*p≤V:=by
  calc q*p≤(v1*B24+v2)*p:=Nat.mul_le_mul_right _ (by simp only[B24]at*;omega)
   _≤V:=by omega
 have h1:q*V≤U+V:=by
  calc q*V≤q*((v1*B24+v2)*p+p):=Nat.mul_le_mul_left _ (by omega)
   _=q*(v1*B24+v2)*p+q*p:=by rw[Nat.mul_add,Nat.mul_assoc]
   _≤(top*B24+u2)*p+V:=Nat.add_le_add (Nat.mul_le_mul_right _ h) hqp
   _≤U+V:=by omega
 cases q with
 |zero=>exact Nat.zero_le _
 |succ q=>
  have h2:q*V≤U:=by rw[Nat.succ_mul]at h1;omega
  exact Nat.succ_le_succ ((Nat.le_div_iff_mul_le g.vpos).2 h2)
end Guess
structure Corr(U V v1 v2 top u2 q:Nat):Prop where
 mul:q*v1≤top
 le:U/V≤q
 lt:q<B24
namespace Corr
variable{U V v1 v2 top u2 p q:Nat}
theorem zer(g:Guess U V v1 v2 top u2 p):U/V*v1≤top:=by
 have:=g.quot_le
 have h2:U/V*v1*B24<(top+1)*B24:=by
  calc U/V*v1*B24=U/V*(v1*B24):=Nat.mul_assoc _ _ _
   _≤U/V*(v1*B24+v2):=Nat.mul_le_mul_left _ (by omega)
   _≤top*B24+u2:=this
   _<(top+1)*B24:=by rw[Nat.add_mul];have:=g.hu2;omega
 have:=Nat.lt_of_mul_lt_mul_right h2
 exact Nat.lt_succ_iff.1 this
theorem start(g:Guess U V v1 v2 top u2 p):Corr U V v1 v2 top u2 (min (top/v1) (B24-1)):=by
 have h1:=g.hv1
 have h2:=g.quot_lt
 refine⟨?_,?_,?_⟩
 · exact Nat.le_trans (Nat.mul_le_mul_right _ (Nat.min_le_left ..)) (Nat.div_mul_le_self ..)
 · refine Nat.le_min.2 ⟨?_,?_⟩
   · rw[Nat.le_div_iff_mul_le (by omega)];exact zer g
   · exact Nat.le_sub_one_of_lt h2
 · exact Nat.lt_of_le_of_lt (Nat.min_le_right ..) (by decide)
theorem zrF{i b e a d:Nat}(h:i+b=e+a)(k:b+d<a):e+d<i:=by omega
theorem zrd{i b e a d:Nat}(h:i+b=e+a)(k:a≤b+d):i≤e+d:=by omega
theorem zon(b q v1 v2 top:Nat)(h:q*v1≤top):q*(v1*b+v2)+(top-q*v1)*b=top*b+q*v2:=by
 obtain⟨r,rfl⟩: ∃r,top=q*v1+r:=⟨top-q*v1,by omega⟩
 rw[Nat.add_sub_cancel_left,Nat.mul_add,←Nat.mul_assoc,Nat.add_mul (q*v1)]
 omega
theorem split(c:Corr U V v1 v2 top u2 q):q*(v1*B24+v2)+(top-q*v1)*B24=top*B24+q*v2:=zon B24 q v1 v2 top c.mul
theorem done(g:Guess U V v1 v2 top u2 p)(c:Corr U V v1 v2 top u2 q)(h:q*v2≤(top-q*v1)*B24+u2∨B24≤top-q*v1):q=U/V∨q=U/V+1:=by
 have h2:q*v2≤(top-q*v1)*B24+u2:=by
  rcases h with h|h
  · exact h
  · calc q * v2 ≤ B24 * B24 := Nat.mul_le_mul (Nat.le_of_lt c.lt) (Nat.le_of_lt g.hv2)
      _≤(top-q*v1)*B24:=Nat.mul_le_mul_right _ h
      _≤_:=Nat.le_add_right ..
 have h3:q*(v1*B24+v2)≤top*B24+u2:=by
  exact zrd c.split h2
 have k1:=g.le_succ c.lt h3
 have k2:=c.le
 generalize U/V=Q at*
 omega
theorem step(g:Guess U V v1 v2 top u2 p)(c:Corr U V v1 v2 top u2 q)(h:(top-q*v1)*B24+u2<q*v2):0<q∧Corr U V v1 v2 top u2 (q-1):=by
 have hq:=g.quot_le
 have h3:top*B24+u2<q*(v1*B24+v2):=zrF c.split h
 have h4:U/V<q:=Nat.lt_of_mul_lt_mul_right (Nat.lt_of_le_of_lt hq h3)
 have lt:=c.lt
 exact⟨Nat.lt_of_le_of_lt (Nat.zero_le _) h4,Nat.le_trans (Nat.mul_le_mul_right _ (Nat.sub_le ..)) c.mul,Nat.le_sub_one_of_lt h4,Nat.lt_of_le_of_lt (Nat.sub_le ..) lt⟩
end Corr
theorem zb6{t d m h B:Nat}(h0:0<t)(hB:B=h+h)(hd:(t+1)*d+m=B)(hm:m<t+1)(ht:t<h):h≤t*d:=by
 rcases Nat.lt_or_ge (t*d) h with hlt|hge
 · exfalso
   obtain⟨k,rfl⟩: ∃k,t=k+1:=⟨t-1,by omega⟩
   obtain⟨g,rfl⟩: ∃g,h=g+1:=⟨h-1,by omega⟩
   have e1:(k+1+1)*((k+1)*d)+(k+1)*m=(k+1)*B:=by
    rw[←hd,Nat.mul_add (k+1),←Nat.mul_assoc,←Nat.mul_assoc,Nat.mul_comm (k+1+1)]
   have e2:(k+1+1)*((k+1)*d)≤(k+1+1)*g:=Nat.mul_le_mul_left _ (by omega)
   have e3:(k+1)*m≤(k+1)*(k+1):=Nat.mul_le_mul_left _ (by omega)
   have e4:(k+1)*B=(k+1)*g+(k+1)*g+(k+1)+(k+1):=by
    rw[hB,show g+1+(g+1)=g+g+1+1 by omega,Nat.mul_add,Nat.mul_add,Nat.mul_add,Nat.mul_one]
   have e5:(k+1+1)*g=(k+1)*g+g:=by rw[Nat.add_mul,Nat.one_mul]
   have e6:(k+1)*(k+1)=k*(k+1)+(k+1):=by rw[Nat.add_mul,Nat.one_mul]
   have e7:k*(k+1)≤k*g:=Nat.mul_le_mul_left _ (by omega)
   have e8:(k+1)*g=k*g+g:=by rw[Nat.add_mul,Nat.one_mul]
   omega
 · exact hge
theorem factor_top{t:Nat}(h0:0<t)(_h1:t<B24):8388608≤t*(B24/(t+1))∧(t+1)*(B24/(t+1))≤B24:=by
 refine⟨?_,Nat.mul_div_le B24 (t+1)⟩
 rcases Nat.lt_or_ge t 8388608 with h|h
 · exact zb6 h0 (B:=B24) (h:=8388608) rfl (Nat.div_add_mod B24 (t+1)) (Nat.mod_lt _ (by omega)) h
 · have hd:1≤B24/(t+1):=(Nat.le_div_iff_mul_le (by omega)).2 (by omega)
   calc 8388608≤t:=h
    _=t*1:=(Nat.mul_one t).symm
    _≤t*(B24/(t+1)):=Nat.mul_le_mul_left _ hd
end Go.Fw.R24
