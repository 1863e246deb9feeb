/- A part of the proof that the law returns true for every input: an executor for the model's code, and what functions of the program compute. -/
import Derived.Test.YtcafjpldfnegiaaGreatDoorB11
import Derived.Test.YtcafjpldfnegiaaGreatDoorB15
import Derived.Test.YtcafjpldfnegiaaGreatDoorB18
import Derived.Test.YtcafjpldfnegiaaGreatDoorB20
import Derived.KernelRfl
open Go
namespace Go.Fw
theorem RSg3 (b : Bool) (x y z : Int) (hx : 0 ≤ x ∧ x < 16777216) (hy : 0 ≤ y ∧ y < 16777216) (hz : 0 ≤ z ∧ z < 16777216) :
    PCall P 196 [.lit (.bool b),.lst 3 [j6 x,j6 y,j6 z]] (J6 (if b then-(x+16777216*(y+16777216*z))else x+16777216*(y+16777216*z))):=by
 have h1:x.toNat<16777216:=by omega
 have h2:y.toNat<16777216:=by omega
 have h3:z.toNat<16777216:=by omega
 have h:=z2I b 3 [x.toNat,y.toNat,z.toNat] rfl (by
  intro v hv
  simp only[List.mem_cons,List.not_mem_nil,or_false]at hv
  rcases hv with e|e|e<;>(rw[e];assumption)) (by show 3<2^40;decide)
 have e:j3 [x.toNat,y.toNat,z.toNat]=[j6 x,j6 y,j6 z]:=by
  simp only[j3,List.map_cons,List.map_nil,Int.toNat_of_nonneg hx.1,Int.toNat_of_nonneg hy.1,Int.toNat_of_nonneg hz.1]
 rw[e]at h
 refine h.eq ?_
 have ev:((val B24 [x.toNat,y.toNat,z.toNat]:Nat):Int)=x+16777216*(y+16777216*z):=by
  simp only[val,B24];omega
 rw[ev]
end Go.Fw
open Go
namespace Go.Fw
set_option maxRecDepth 100000
theorem zmg(n:Int)(h1:decide (n<(0:Int))=true)(s24_0:(0:Int)≤IntKind.i64.wrap ((IntKind.u64.wrap ((0:Int)-IntKind.u64.wrap n)).tmod (16777216:Int))∧IntKind.i64.wrap ((IntKind.u64.wrap ((0:Int)-IntKind.u64.wrap n)).tmod (16777216:Int))<(16777216:Int))(s24_1:(0:Int)≤IntKind.i64.wrap ((IntKind.u64.wrap ((IntKind.u64.wrap ((0:Int)-IntKind.u64.wrap n)).tdiv (16777216:Int))).tmod (16777216:Int))∧IntKind.i64.wrap ((IntKind.u64.wrap ((IntKind.u64.wrap ((0:Int)-IntKind.u64.wrap n)).tdiv (16777216:Int))).tmod (16777216:Int))<(16777216:Int))(s24_2:(0:Int)≤IntKind.i64.wrap (IntKind.u64.wrap ((IntKind.u64.wrap ((IntKind.u64.wrap ((0:Int)-IntKind.u64.wrap n)).tdiv (16777216:Int))).tdiv (16777216:Int)))∧IntKind.i64.wrap (IntKind.u64.wrap ((IntKind.u64.wrap ((IntKind.u64.wrap ((0:Int)-IntKind.u64.wrap n)).tdiv (16777216:Int))).tdiv (16777216:Int)))<(16777216:Int))(o7:[MV.cv (CV.lit (Value.int IntKind.i64 (IntKind.i64.wrap ((IntKind.u64.wrap ((0:Int)-IntKind.u64.wrap n)).tmod (16777216:Int))))),MV.cv (CV.lit (Value.int IntKind.i64 (IntKind.i64.wrap ((IntKind.u64.wrap ((IntKind.u64.wrap ((0:Int)-IntKind.u64.wrap n)).tdiv (16777216:Int))).tmod (16777216:Int))))),MV.cv (CV.lit (Value.int IntKind.i64 (IntKind.i64.wrap (IntKind.u64.wrap ((IntKind.u64.wrap ((IntKind.u64.wrap ((0:Int)-IntKind.u64.wrap n)).tdiv (16777216:Int))).tdiv (16777216:Int))))))]=[MV.cv (CV.lit (Value.int IntKind.i64 (IntKind.i64.wrap ((IntKind.u64.wrap ((0:Int)-IntKind.u64.wrap n)).tmod (16777216:Int))))),MV.cv (CV.lit (Value.int IntKind.i64 (IntKind.i64.wrap ((IntKind.u64.wrap ((IntKind.u64.wrap ((0:Int)-IntKind.u64.wrap n)).tdiv (16777216:Int))).tmod (16777216:Int))))),MV.cv (CV.lit (Value.int IntKind.i64 (IntKind.i64.wrap (IntKind.u64.wrap ((IntKind.u64.wrap ((IntKind.u64.wrap ((0:Int)-IntKind.u64.wrap n)).tdiv (16777216:Int))).tdiv (16777216:Int))))))]):PCall P (131:FuncId) [j6 n] (CV.agg [CV.lit (Value.bool (decide ((if decide (n<(0:Int))=true then-(IntKind.i64.wrap ((IntKind.u64.wrap ((0:Int)-IntKind.u64.wrap n)).tmod (16777216:Int))+(16777216:Int)*(IntKind.i64.wrap ((IntKind.u64.wrap ((IntKind.u64.wrap ((0:Int)-IntKind.u64.wrap n)).tdiv (16777216:Int))).tmod (16777216:Int))+(16777216:Int)*IntKind.i64.wrap (IntKind.u64.wrap ((IntKind.u64.wrap ((IntKind.u64.wrap ((0:Int)-IntKind.u64.wrap n)).tdiv (16777216:Int))).tdiv (16777216:Int)))))else IntKind.i64.wrap ((IntKind.u64.wrap ((0:Int)-IntKind.u64.wrap n)).tmod (16777216:Int))+(16777216:Int)*(IntKind.i64.wrap ((IntKind.u64.wrap ((IntKind.u64.wrap ((0:Int)-IntKind.u64.wrap n)).tdiv (16777216:Int))).tmod (16777216:Int))+(16777216:Int)*IntKind.i64.wrap (IntKind.u64.wrap ((IntKind.u64.wrap ((IntKind.u64.wrap ((0:Int)-IntKind.u64.wrap n)).tdiv (16777216:Int))).tdiv (16777216:Int)))))<(0:Int)))),CV.lit (Value.string (bytesOf (if decide (n<(0:Int))=true then-(IntKind.i64.wrap ((IntKind.u64.wrap ((0:Int)-IntKind.u64.wrap n)).tmod (16777216:Int))+(16777216:Int)*(IntKind.i64.wrap ((IntKind.u64.wrap ((IntKind.u64.wrap ((0:Int)-IntKind.u64.wrap n)).tdiv (16777216:Int))).tmod (16777216:Int))+(16777216:Int)*IntKind.i64.wrap (IntKind.u64.wrap ((IntKind.u64.wrap ((IntKind.u64.wrap ((0:Int)-IntKind.u64.wrap n)).tdiv (16777216:Int))).tdiv (16777216:Int)))))else IntKind.i64.wrap ((IntKind.u64.wrap ((0:Int)-IntKind.u64.wrap n)).tmod (16777216:Int))+(16777216:Int)*(IntKind.i64.wrap ((IntKind.u64.wrap ((IntKind.u64.wrap ((0:Int)-IntKind.u64.wrap n)).tdiv (16777216:Int))).tmod (16777216:Int))+(16777216:Int)*IntKind.i64.wrap (IntKind.u64.wrap ((IntKind.u64.wrap ((IntKind.u64.wrap ((0:Int)-IntKind.u64.wrap n)).tdiv (16777216:Int))).tdiv (16777216:Int))))).natAbs))]):=
 j5 (.b 6 h1 (.c (show(16777216:Int)≠(0:Int)from(by decide)) (.c (show(16777216:Int)≠(0:Int)from(by decide)) (.c (show(16777216:Int)≠(0:Int)from(by decide)) (.c (show(16777216:Int)≠(0:Int)from(by decide)) (.c (show(16777216:Int)≠(0:Int)from(by decide)) (.c (Go.Fw.RSg3 (decide (n<(0:Int))) (IntKind.i64.wrap ((IntKind.u64.wrap ((0:Int)-IntKind.u64.wrap n)).tmod (16777216:Int))) (IntKind.i64.wrap ((IntKind.u64.wrap ((IntKind.u64.wrap ((0:Int)-IntKind.u64.wrap n)).tdiv (16777216:Int))).tmod (16777216:Int))) (IntKind.i64.wrap (IntKind.u64.wrap ((IntKind.u64.wrap ((IntKind.u64.wrap ((0:Int)-IntKind.u64.wrap n)).tdiv (16777216:Int))).tdiv (16777216:Int)))) s24_0 s24_1 s24_2) (.c o7 (.c (show 2≤2 from(by decide)) (.o 24 (Or.k (CV.agg [CV.lit (Value.bool (decide ((if decide (n<(0:Int))=true then-(IntKind.i64.wrap ((IntKind.u64.wrap ((0:Int)-IntKind.u64.wrap n)).tmod (16777216:Int))+(16777216:Int)*(IntKind.i64.wrap ((IntKind.u64.wrap ((IntKind.u64.wrap ((0:Int)-IntKind.u64.wrap n)).tdiv (16777216:Int))).tmod (16777216:Int))+(16777216:Int)*IntKind.i64.wrap (IntKind.u64.wrap ((IntKind.u64.wrap ((IntKind.u64.wrap ((0:Int)-IntKind.u64.wrap n)).tdiv (16777216:Int))).tdiv (16777216:Int)))))else IntKind.i64.wrap ((IntKind.u64.wrap ((0:Int)-IntKind.u64.wrap n)).tmod (16777216:Int))+(16777216:Int)*(IntKind.i64.wrap ((IntKind.u64.wrap ((IntKind.u64.wrap ((0:Int)-IntKind.u64.wrap n)).tdiv (16777216:Int))).tmod (16777216:Int))+(16777216:Int)*IntKind.i64.wrap (IntKind.u64.wrap ((IntKind.u64.wrap ((IntKind.u64.wrap ((0:Int)-IntKind.u64.wrap n)).tdiv (16777216:Int))).tdiv (16777216:Int)))))<(0:Int)))),CV.lit (Value.string (bytesOf (if decide (n<(0:Int))=true then-(IntKind.i64.wrap ((IntKind.u64.wrap ((0:Int)-IntKind.u64.wrap n)).tmod (16777216:Int))+(16777216:Int)*(IntKind.i64.wrap ((IntKind.u64.wrap ((IntKind.u64.wrap ((0:Int)-IntKind.u64.wrap n)).tdiv (16777216:Int))).tmod (16777216:Int))+(16777216:Int)*IntKind.i64.wrap (IntKind.u64.wrap ((IntKind.u64.wrap ((IntKind.u64.wrap ((0:Int)-IntKind.u64.wrap n)).tdiv (16777216:Int))).tdiv (16777216:Int)))))else IntKind.i64.wrap ((IntKind.u64.wrap ((0:Int)-IntKind.u64.wrap n)).tmod (16777216:Int))+(16777216:Int)*(IntKind.i64.wrap ((IntKind.u64.wrap ((IntKind.u64.wrap ((0:Int)-IntKind.u64.wrap n)).tdiv (16777216:Int))).tmod (16777216:Int))+(16777216:Int)*IntKind.i64.wrap (IntKind.u64.wrap ((IntKind.u64.wrap ((IntKind.u64.wrap ((0:Int)-IntKind.u64.wrap n)).tdiv (16777216:Int))).tdiv (16777216:Int))))).natAbs))]) [[CV.lit (Value.int IntKind.i64 (IntKind.i64.wrap ((IntKind.u64.wrap ((0:Int)-IntKind.u64.wrap n)).tmod (16777216:Int)))),CV.lit (Value.int IntKind.i64 (IntKind.i64.wrap ((IntKind.u64.wrap ((IntKind.u64.wrap ((0:Int)-IntKind.u64.wrap n)).tdiv (16777216:Int))).tmod (16777216:Int)))),CV.lit (Value.int IntKind.i64 (IntKind.i64.wrap (IntKind.u64.wrap ((IntKind.u64.wrap ((IntKind.u64.wrap ((0:Int)-IntKind.u64.wrap n)).tdiv (16777216:Int))).tdiv (16777216:Int)))))]]) .nil)))))))))) (by kernel_rfl)
theorem zlh(n:Int)(h1:decide (n<(0:Int))=false)(s21_0:(0:Int)≤IntKind.i64.wrap ((IntKind.u64.wrap n).tmod (16777216:Int))∧IntKind.i64.wrap ((IntKind.u64.wrap n).tmod (16777216:Int))<(16777216:Int))(s21_1:(0:Int)≤IntKind.i64.wrap ((IntKind.u64.wrap ((IntKind.u64.wrap n).tdiv (16777216:Int))).tmod (16777216:Int))∧IntKind.i64.wrap ((IntKind.u64.wrap ((IntKind.u64.wrap n).tdiv (16777216:Int))).tmod (16777216:Int))<(16777216:Int))(s21_2:(0:Int)≤IntKind.i64.wrap (IntKind.u64.wrap ((IntKind.u64.wrap ((IntKind.u64.wrap n).tdiv (16777216:Int))).tdiv (16777216:Int)))∧IntKind.i64.wrap (IntKind.u64.wrap ((IntKind.u64.wrap ((IntKind.u64.wrap n).tdiv (16777216:Int))).tdiv (16777216:Int)))<(16777216:Int))(o7:[MV.cv (CV.lit (Value.int IntKind.i64 (IntKind.i64.wrap ((IntKind.u64.wrap n).tmod (16777216:Int))))),MV.cv (CV.lit (Value.int IntKind.i64 (IntKind.i64.wrap ((IntKind.u64.wrap ((IntKind.u64.wrap n).tdiv (16777216:Int))).tmod (16777216:Int))))),MV.cv (CV.lit (Value.int IntKind.i64 (IntKind.i64.wrap (IntKind.u64.wrap ((IntKind.u64.wrap ((IntKind.u64.wrap n).tdiv (16777216:Int))).tdiv (16777216:Int))))))]=[MV.cv (CV.lit (Value.int IntKind.i64 (IntKind.i64.wrap ((IntKind.u64.wrap n).tmod (16777216:Int))))),MV.cv (CV.lit (Value.int IntKind.i64 (IntKind.i64.wrap ((IntKind.u64.wrap ((IntKind.u64.wrap n).tdiv (16777216:Int))).tmod (16777216:Int))))),MV.cv (CV.lit (Value.int IntKind.i64 (IntKind.i64.wrap (IntKind.u64.wrap ((IntKind.u64.wrap ((IntKind.u64.wrap n).tdiv (16777216:Int))).tdiv (16777216:Int))))))]):PCall P (131:FuncId) [j6 n] (CV.agg [CV.lit (Value.bool (decide ((if decide (n<(0:Int))=true then-(IntKind.i64.wrap ((IntKind.u64.wrap n).tmod (16777216:Int))+(16777216:Int)*(IntKind.i64.wrap ((IntKind.u64.wrap ((IntKind.u64.wrap n).tdiv (16777216:Int))).tmod (16777216:Int))+(16777216:Int)*IntKind.i64.wrap (IntKind.u64.wrap ((IntKind.u64.wrap ((IntKind.u64.wrap n).tdiv (16777216:Int))).tdiv (16777216:Int)))))else IntKind.i64.wrap ((IntKind.u64.wrap n).tmod (16777216:Int))+(16777216:Int)*(IntKind.i64.wrap ((IntKind.u64.wrap ((IntKind.u64.wrap n).tdiv (16777216:Int))).tmod (16777216:Int))+(16777216:Int)*IntKind.i64.wrap (IntKind.u64.wrap ((IntKind.u64.wrap ((IntKind.u64.wrap n).tdiv (16777216:Int))).tdiv (16777216:Int)))))<(0:Int)))),CV.lit (Value.string (bytesOf (if decide (n<(0:Int))=true then-(IntKind.i64.wrap ((IntKind.u64.wrap n).tmod (16777216:Int))+(16777216:Int)*(IntKind.i64.wrap ((IntKind.u64.wrap ((IntKind.u64.wrap n).tdiv (16777216:Int))).tmod (16777216:Int))+(16777216:Int)*IntKind.i64.wrap (IntKind.u64.wrap ((IntKind.u64.wrap ((IntKind.u64.wrap n).tdiv (16777216:Int))).tdiv (16777216:Int)))))else IntKind.i64.wrap ((IntKind.u64.wrap n).tmod (16777216:Int))+(16777216:Int)*(IntKind.i64.wrap ((IntKind.u64.wrap ((IntKind.u64.wrap n).tdiv (16777216:Int))).tmod (16777216:Int))+(16777216:Int)*IntKind.i64.wrap (IntKind.u64.wrap ((IntKind.u64.wrap ((IntKind.u64.wrap n).tdiv (16777216:Int))).tdiv (16777216:Int))))).natAbs))]):=
 j5 (.b 6 h1 (.c (show(16777216:Int)≠(0:Int)from(by decide)) (.c (show(16777216:Int)≠(0:Int)from(by decide)) (.c (show(16777216:Int)≠(0:Int)from(by decide)) (.c (show(16777216:Int)≠(0:Int)from(by decide)) (.c (show(16777216:Int)≠(0:Int)from(by decide)) (.c (Go.Fw.RSg3 (decide (n<(0:Int))) (IntKind.i64.wrap ((IntKind.u64.wrap n).tmod (16777216:Int))) (IntKind.i64.wrap ((IntKind.u64.wrap ((IntKind.u64.wrap n).tdiv (16777216:Int))).tmod (16777216:Int))) (IntKind.i64.wrap (IntKind.u64.wrap ((IntKind.u64.wrap ((IntKind.u64.wrap n).tdiv (16777216:Int))).tdiv (16777216:Int)))) s21_0 s21_1 s21_2) (.c o7 (.c (show 2≤2 from(by decide)) (.o 21 (Or.k (CV.agg [CV.lit (Value.bool (decide ((if decide (n<(0:Int))=true then-(IntKind.i64.wrap ((IntKind.u64.wrap n).tmod (16777216:Int))+(16777216:Int)*(IntKind.i64.wrap ((IntKind.u64.wrap ((IntKind.u64.wrap n).tdiv (16777216:Int))).tmod (16777216:Int))+(16777216:Int)*IntKind.i64.wrap (IntKind.u64.wrap ((IntKind.u64.wrap ((IntKind.u64.wrap n).tdiv (16777216:Int))).tdiv (16777216:Int)))))else IntKind.i64.wrap ((IntKind.u64.wrap n).tmod (16777216:Int))+(16777216:Int)*(IntKind.i64.wrap ((IntKind.u64.wrap ((IntKind.u64.wrap n).tdiv (16777216:Int))).tmod (16777216:Int))+(16777216:Int)*IntKind.i64.wrap (IntKind.u64.wrap ((IntKind.u64.wrap ((IntKind.u64.wrap n).tdiv (16777216:Int))).tdiv (16777216:Int)))))<(0:Int)))),CV.lit (Value.string (bytesOf (if decide (n<(0:Int))=true then-(IntKind.i64.wrap ((IntKind.u64.wrap n).tmod (16777216:Int))+(16777216:Int)*(IntKind.i64.wrap ((IntKind.u64.wrap ((IntKind.u64.wrap n).tdiv (16777216:Int))).tmod (16777216:Int))+(16777216:Int)*IntKind.i64.wrap (IntKind.u64.wrap ((IntKind.u64.wrap ((IntKind.u64.wrap n).tdiv (16777216:Int))).tdiv (16777216:Int)))))else IntKind.i64.wrap ((IntKind.u64.wrap n).tmod (16777216:Int))+(16777216:Int)*(IntKind.i64.wrap ((IntKind.u64.wrap ((IntKind.u64.wrap n).tdiv (16777216:Int))).tmod (16777216:Int))+(16777216:Int)*IntKind.i64.wrap (IntKind.u64.wrap ((IntKind.u64.wrap ((IntKind.u64.wrap n).tdiv (16777216:Int))).tdiv (16777216:Int))))).natAbs))]) [[CV.lit (Value.int IntKind.i64 (IntKind.i64.wrap ((IntKind.u64.wrap n).tmod (16777216:Int)))),CV.lit (Value.int IntKind.i64 (IntKind.i64.wrap ((IntKind.u64.wrap ((IntKind.u64.wrap n).tdiv (16777216:Int))).tmod (16777216:Int)))),CV.lit (Value.int IntKind.i64 (IntKind.i64.wrap (IntKind.u64.wrap ((IntKind.u64.wrap ((IntKind.u64.wrap n).tdiv (16777216:Int))).tdiv (16777216:Int)))))]]) .nil)))))))))) (by kernel_rfl)
end Go.Fw
open Go
namespace Go.Fw
theorem z8C {U : Int} (h : 0 ≤ U ∧ U ≤ 9223372036854775808) : IntKind.i64.wrap (U.tmod 16777216) = U % 16777216 ∧ IntKind.u64.wrap (U.tdiv 16777216) = U / 16777216 ∧ IntKind.i64.wrap ((U / 16777216).tmod 16777216) = U / 16777216 % 16777216 ∧
    IntKind.i64.wrap (IntKind.u64.wrap ((U/16777216).tdiv 16777216))=U/16777216/16777216:=by
 rw[Int.tmod_eq_emod_of_nonneg h.1,Int.tdiv_eq_ediv_of_nonneg h.1,Int.tmod_eq_emod_of_nonneg (by omega),Int.tdiv_eq_ediv_of_nonneg (by omega),z1F,z1F,w64 (by omega),w64 (by omega),w64 (by omega)]
 omega
theorem Y1(n:Int)(h: -9223372036854775808≤n∧n≤9223372036854775807):PCall P 131 [j6 n] (J6 n):=by
 cases h1:decide (n<0)with
 |true=>
  have h1':=of_decide_eq_true h1
  have hu:IntKind.u64.wrap (0-IntKind.u64.wrap n)= -n:=by rw[z1F,z1F];omega
  obtain⟨d1,d2,d3,d4⟩:=z8C (U:= -n) (by omega)
  refine(zmg n h1 (by rw[hu,d1];omega) (by rw[hu,d2,d3];omega) (by rw[hu,d2,d4];omega) rfl).eq ?_
  rw[hu,d1,d2,d3,d4]
  show J6 _=J6 n
  congr 1
  rw[if_pos (by simpa using h1')];omega
 |false=>
  have h1':=of_decide_eq_false h1
  have hu:IntKind.u64.wrap n=n:=by rw[z1F];omega
  obtain⟨d1,d2,d3,d4⟩:=z8C (U:=n) (by omega)
  refine(zlh n h1 (by rw[hu,d1];omega) (by rw[hu,d2,d3];omega) (by rw[hu,d2,d4];omega) rfl).eq ?_
  rw[hu,d1,d2,d3,d4]
  show J6 _=J6 n
  congr 1
  rw[if_neg (by simpa using h1')];omega
end Go.Fw
open Go IntKind
namespace Go.Fw
set_option maxRecDepth 100000
theorem zjS(z:Int)(h1:decide ((↑(bytesOf z.natAbs).size:Int)>8)=false){R:CV→Prop}(hR:Ok P 236 (loopHead P 236 0) ⟨J3 52 [(1,.ptr 0 0),(4,.cv (.lit (.int .u64 0))),(5,.cv (.lit (.int .i64 0)))],[some [.cv (.lit (.bool (decide (z<0)))),.cv (.lit (.string (bytesOf z.natAbs)))]]⟩ (.of R)):W6 P 236 [J6 z] R:=
 Y4 (keep:=[1,4,5]) (σ:=[0]) (.r 4 (J5 (z)) (.b 12 h1 (.o 15 .stop .nil))) (by kernel_rfl) rfl hR (.cons (by simp[CvL]) .nil)
theorem zg1(b:Bool)(s:ByteArray)(i u:Nat)(h:decide ((i:Int)<(↑s.size:Int))=true)(o2:(0:Int)≤i∧(i:Int)<(↑s.size:Int)){R:Goal}(hn:J0 R.n [0]=true)(hR:Ok P 236 (loopHead P 236 0) ⟨J3 52 [(1,.ptr 0 0),(4,.cv (.lit (.int .u64 (u64.wrap (u64.wrap ((u:Int)*256)+u64.wrap (↑(s.data.getD (i:Int).toNat (OfNat.ofNat 0)).toNat:Int)))))),(5,.cv (.lit (.int .i64 (i64.wrap ((i:Int)+1)))))],[some [.cv (.lit (.bool b)),.cv (.lit (.string s))]]⟩ R):Ok P 236 (loopHead P 236 0) ⟨J3 52 [(1,.ptr 0 0),(4,.cv (.lit (.int .u64 (u:Int)))),(5,.cv (j6 (i:Int)))],[some [.cv (.lit (.bool b)),.cv (.lit (.string s))]]⟩ R:=
 z0D (keep:=[1,4,5]) (σ:=[0]) (.b 6 h (.c (nn 8) (.c o2 (.o 19 .stop .nil)))) (by kernel_rfl) rfl hn hR (.cons (by simp[CvL]) .nil)
end Go.Fw
open Go IntKind
namespace Go.Fw
set_option maxRecDepth 100000
theorem zgt(s:ByteArray)(i:Nat)(u:Int)(h:decide ((i:Int)<(↑s.size:Int))=false)(h2:decide (u<9223372036854775808)=true){R:Goal}(hR:R.c (.tup [.lit (.int .i64 (i64.wrap u)),.lit (.bool true)])):Ok P 236 (loopHead P 236 0) ⟨J3 52 [(1,.ptr 0 0),(4,.cv (.lit (.int .u64 u))),(5,.cv (j6 (i:Int)))],[some [.cv (.lit (.bool false)),.cv (.lit (.string s))]]⟩ R:=
 okT (.b 6 h (.b 23 h2 .nil)) (by kernel_rfl) hR
theorem zfv(s:ByteArray)(i:Nat)(u:Int)(h:decide ((i:Int)<(↑s.size:Int))=false)(h2:decide (u≤9223372036854775808)=true){R:Goal}(hR:R.c (.tup [.lit (.int .i64 (i64.wrap (i64.wrap ((0:Int)-i64.wrap (u64.wrap (u-1)))-1))),.lit (.bool true)])):Ok P 236 (loopHead P 236 0) ⟨J3 52 [(1,.ptr 0 0),(4,.cv (.lit (.int .u64 u))),(5,.cv (j6 (i:Int)))],[some [.cv (.lit (.bool true)),.cv (.lit (.string s))]]⟩ R:=
 okT (.b 6 h (.b 14 h2 .nil)) (by kernel_rfl) hR
end Go.Fw
open Go
namespace Go.Fw
theorem z6i(s:ByteArray){i:Nat}(h:i<s.size):(s.data.getD i (OfNat.ofNat 0)).toNat=J7 s/256^(s.size-1-i)%256:=by
 have:=z6K s (i:=s.size-1-i) (by omega)
 rw[show s.size-1-(s.size-1-i)=i by omega]at this
 refine this.symm.trans ?_
 have hd:=z1n s
 conv=>lhs;rw[←z0r (by decide) (z2h s) hd]
 rw[Y9 _ _ _ _ (by rw[V5];omega)];rfl
theorem z8g {R : Goal} (hn : R.n = 0) (b : Bool) (s : ByteArray) (hs : s.size ≤ 8)
    (hR:Ok P 236 (loopHead P 236 0) ⟨J3 52 [(1,.ptr 0 0),(4,.cv (.lit (.int .u64 (J7 s:Nat)))),(5,.cv (j6 s.size))],[some [.cv (.lit (.bool b)),.cv (.lit (.string s))]]⟩ R): ∀(d i:Nat),i+d=s.size→
    Ok P 236 (loopHead P 236 0) ⟨J3 52 [(1,.ptr 0 0),(4,.cv (.lit (.int .u64 (J7 s/256^(s.size-i):Nat)))),(5,.cv (j6 i))],[some [.cv (.lit (.bool b)),.cv (.lit (.string s))]]⟩ R
 |0,i,hi=>by
  have:i=s.size:=by omega
  subst this
  simpa using hR
 |d+1,i,hi=>by
  refine zg1 b s i _ (decide_eq_true (by omega)) (by omega) (by rw[hn];rfl) ?_
  have hb:=z6i s (i:=i) (by omega)
  have hV:J7 s<18446744073709551616:=Nat.lt_of_lt_of_le (z0u s) (Nat.pow_le_pow_right (by decide) hs)
  have hstep:J7 s/256^(s.size-(i+1))=J7 s/256^(s.size-i)*256+J7 s/256^(s.size-1-i)%256:=by
   rw[show s.size-i=(s.size-1-i)+1 by omega,Nat.pow_succ,←Nat.div_div_eq_div_mul,show s.size-(i+1)=s.size-1-i by omega]
   omega
  have hle:=Nat.div_le_self (J7 s) (256^(s.size-(i+1)))
  have ih:=z8g hn b s hs hR d (i+1) (by omega)
  rw[hstep]at ih hle
  rw[Int.toNat_natCast,hb,z1F,z1F,z1F,w64 (by omega)]
  generalize J7 s/256^(s.size-i)=A at ih hle ⊢
  generalize J7 s/256^(s.size-1-i)%256=B at ih hle ⊢
  rw[show((A:Int)*256%18446744073709551616+(B:Int)%18446744073709551616)%18446744073709551616=((A*256+B:Nat):Int) by omega]
  exact ih
end Go.Fw
open Go
namespace Go.Fw
theorem X7{n k:Nat}:(bytesOf n).size≤k↔n<256^k:=by rw[z1p];exact z3m (by decide)
theorem zc4(z:Int)(h: -9223372036854775808<z∧z<9223372036854775808):PCall P 236 [J6 z] (.tup [j6 z,.lit (.bool true)]):=by
 have hs:(bytesOf z.natAbs).size≤8:=X7.2 (by omega)
 refine zjS z (decide_eq_false (by omega)) (R := (· = _)) ?_
 have hv:J7 (bytesOf z.natAbs)=z.natAbs:=z03 _
 have := z8g (R := (· = CV.tup [j6 z, .lit (.bool true)])) rfl (decide (z < 0)) (bytesOf z.natAbs) hs ?_ (bytesOf z.natAbs).size 0 (by omega)
 · have e:J7 (bytesOf z.natAbs)/256^((bytesOf z.natAbs).size-0)=0:=Nat.div_eq_of_lt (z0u _)
   rw[e]at this
   exact this
 · rw[hv]
   by_cases hz:z<0
   · rw[decide_eq_true hz]
     refine zfv _ _ _ (decide_eq_false (by omega)) (decide_eq_true (by omega)) ?_
     show CV.tup _=CV.tup _
     rw[z1F,w64 (n:=((z.natAbs:Int)-1)%18446744073709551616) (by omega),w64 (n:=0-((z.natAbs:Int)-1)%18446744073709551616) (by omega),w64 (by omega)]
     congr 4;omega
   · rw[decide_eq_false hz]
     refine zgt _ _ _ (decide_eq_false (by omega)) (decide_eq_true (by omega)) ?_
     show CV.tup _=CV.tup _
     rw[w64 (by omega)]
     congr 4;omega
end Go.Fw
open Go IntKind
namespace Go.Fw
set_option maxRecDepth 100000
theorem zcE(z:Int)(h1:decide ((↑(bytesOf z.natAbs).size:Int)>7)=true):PCall P 194 [J6 z] (.tup [.lit (.int .i64 0),.lit (.bool false)]):=
 j5 (.b 7 h1 .nil) (by kernel_rfl)
theorem zd6(z:Int)(h1:decide ((↑(bytesOf z.natAbs).size:Int)>7)=false)(s9_0:(-9223372036854775808:Int)<z∧z<9223372036854775808):PCall P 194 [J6 z] (.tup [.lit (.int .i64 z),.lit (.bool true)]):=
 j5 (.b 7 h1 (.r 9 (zc4 (z) s9_0) .nil)) (by kernel_rfl)
theorem zf9(z:Int)(h1:((bytesOf z.natAbs).toList==[])=true):PCall P 183 [J6 z] (.lit (.int .i64 0)):=
 j5 (.r 3 (J5 (z)) (.b 11 h1 .nil)) (by kernel_rfl)
theorem zf3(z:Int)(h1:((bytesOf z.natAbs).toList==[])=false)(h2:decide (z<0)=true):PCall P 183 [J6 z] (.lit (.int .i64 (-1:Int))):=
 j5 (.r 3 (J5 (z)) (.b 11 h1 (.b 15 h2 .nil))) (by kernel_rfl)
theorem zeF(z:Int)(h1:((bytesOf z.natAbs).toList==[])=false)(h2:decide (z<0)=false):PCall P 183 [J6 z] (.lit (.int .i64 1)):=
 j5 (.r 3 (J5 (z)) (.b 11 h1 (.b 15 h2 .nil))) (by kernel_rfl)
theorem zjH(z:Int):PCall P 186 [J6 z] (.agg [.lit (.bool false),.lit (.string (bytesOf z.natAbs))]):=
 j5 (.r 3 (J5 (z)) (.c (lq 2 2) .nil)) (by kernel_rfl)
theorem zhc(z:Int)(h1:((bytesOf z.natAbs).toList==[])=true):PCall P 132 [J6 z] (.agg [.lit (.bool false),.lit (.string {data:= #[]})]):=
 j5 (.r 3 (J5 (z)) (.b 10 h1 (.c (lq 2 2) .nil))) (by kernel_rfl)
theorem ziI(z:Int)(h1:((bytesOf z.natAbs).toList==[])=false):PCall P 132 [J6 z] (.agg [.lit (.bool !decide (z<0)),.lit (.string (bytesOf z.natAbs))]):=
 j5 (.r 3 (J5 (z)) (.b 10 h1 (.c (lq 2 2) .nil))) (by kernel_rfl)
end Go.Fw
open Go IntKind
namespace Go.Fw
set_option maxRecDepth 100000
theorem zie(n m o i j x V:Nat)(xs ys:List Nat)(h1:decide ((j:Int)<m)=true)(s14_0:(0:Int)≤i64.wrap ((i:Int)+j))(s14_1:o<2^40)(s14_2:(i64.wrap ((i:Int)+j)).toNat+1<o)(s14_3:V+x*ys.getD ((j:Int).toNat*1) 0*4294967296^(i64.wrap ((i:Int)+j)).toNat<4294967296^o)(s14_4:x<4294967296)(s14_5:ys.getD ((j:Int).toNat*1) 0<4294967296)(o1:(0:Int)≤j∧(j:Int)<m)(o2:(j7 ys)[(j:Int).toNat*1]?=some (.lit (.int .u32 ↑(ys.getD ((j:Int).toNat*1) 0))))(o5:BlksCv [some (own (j7 (Q7 4294967296 o V))),some (own (j7 (Q7 4294967296 o (V+x*ys.getD ((j:Int).toNat*1) 0*4294967296^(i64.wrap ((i:Int)+j)).toNat))))])(o6:CvL (own (j7 (Q7 4294967296 o (V+x*ys.getD ((j:Int).toNat*1) 0*4294967296^(i64.wrap ((i:Int)+j)).toNat))))){R:Goal}(hn:J0 R.n [0]=true)(hR:Ok P 243 (loopHead P 243 1) ⟨J3 45 [(1,.cv (.lst m (j7 ys))),(5,.sl 0 0 o 1),(6,MV.fn 258 [.sl 0 0 o 1] []),(7,.cv (.lit (.int .i64 (i:Int)))),(8,.cv (.lit (.int .u32 (x:Int)))),(20,.cv (.lst n (j7 xs))),(21,.cv (.lit (.int .i64 (n:Int)))),(22,.cv (.lit (.int .i64 (i:Int)))),(27,.cv (.lst m (j7 ys))),(28,.cv (.lit (.int .i64 (m:Int)))),(29,.cv (.lit (.int .i64 (i64.wrap ((j:Int)+1)))))],[some (own (j7 (Q7 4294967296 o (V+x*ys.getD ((j:Int).toNat*1) 0*4294967296^(i64.wrap ((i:Int)+j)).toNat))))]⟩ R):Ok P 243 (loopHead P 243 1) ⟨J3 45 [(1,.cv (.lst m (j7 ys))),(5,.sl 0 0 o 1),(6,MV.fn 258 [.sl 0 0 o 1] []),(7,.cv (.lit (.int .i64 (i:Int)))),(8,.cv (.lit (.int .u32 (x:Int)))),(20,.cv (.lst n (j7 xs))),(21,.cv (.lit (.int .i64 (n:Int)))),(22,.cv (.lit (.int .i64 (i:Int)))),(27,.cv (.lst m (j7 ys))),(28,.cv (.lit (.int .i64 (m:Int)))),(29,.cv (.lit (.int .i64 (j:Int))))],[some (own (j7 (Q7 B32 o V)))]⟩ R:=
 okS (keep:=[1,5,6,7,8,20,21,22,27,28,29]) (σ:=[0]) (ors:=[(2,.b true),(5,.r (.lit (.int .u32 ↑(ys.getD ((j:Int).toNat*1) 0)))),(14,.m [0] (.tup []) [some (own (j7 (Q7 B32 o (V+x*ys.getD ((j:Int).toNat*1) 0*B32^(i64.wrap ((i:Int)+j)).toNat))))]),(17,.stop)]) (by kernel_rfl) rfl (.cons h1 (.cons o1 (.cons o2 (.cons (eqn 1) (.cons (ze7 (o) (V) (i64.wrap ((i:Int)+j)) (x) (ys.getD ((j:Int).toNat*1) 0) s14_0 s14_1 s14_2 s14_3 s14_4 s14_5) (.cons o5 (.cons o6 .nil))))))) hn hR
theorem zhZ(n m o i j x V:Nat)(xs ys:List Nat)(h1:decide ((j:Int)<m)=false)(o1:CvL (own (j7 (Q7 4294967296 o V)))){R:Goal}(hn:J0 R.n [0]=true)(hR:Ok P 243 (loopHead P 243 0) ⟨J3 45 [(1,.cv (.lst m (j7 ys))),(5,.sl 0 0 o 1),(6,MV.fn 258 [.sl 0 0 o 1] []),(20,.cv (.lst n (j7 xs))),(21,.cv (.lit (.int .i64 (n:Int)))),(22,.cv (.lit (.int .i64 (i64.wrap ((i:Int)+1)))))],[some (own (j7 (Q7 4294967296 o V)))]⟩ R):Ok P 243 (loopHead P 243 1) ⟨J3 45 [(1,.cv (.lst m (j7 ys))),(5,.sl 0 0 o 1),(6,MV.fn 258 [.sl 0 0 o 1] []),(7,.cv (.lit (.int .i64 (i:Int)))),(8,.cv (.lit (.int .u32 (x:Int)))),(20,.cv (.lst n (j7 xs))),(21,.cv (.lit (.int .i64 (n:Int)))),(22,.cv (.lit (.int .i64 (i:Int)))),(27,.cv (.lst m (j7 ys))),(28,.cv (.lit (.int .i64 (m:Int)))),(29,.cv (.lit (.int .i64 (j:Int))))],[some (own (j7 (Q7 B32 o V)))]⟩ R:=
 okS (keep:=[1,5,6,20,21,22]) (σ:=[0]) (ors:=[(2,.b false),(5,.stop)]) (by kernel_rfl) rfl (.cons h1 (.cons o1 .nil)) hn hR
end Go.Fw
open Go
namespace Go.Fw
set_option maxRecDepth 100000
theorem z5F{b:Nat}(xs:List Nat)(i:Nat):val b (xs.take i)≤val b xs:=by
 by_cases h:i≤xs.length
 · rw[z0N (b:=b) xs i h];omega
 · rw[z0a (by omega)];exact Nat.le_refl _
theorem zfF {R : Goal} (hn : J0 R.n [0] = true) (xs ys : List Nat) (hxl : xs.length < 2 ^ 38) (hyl : ys.length < 2 ^ 38) (hx : Dig B32 xs) (hy : Dig B32 ys)
    (hR:R.c (z0j (val B32 xs*val B32 ys))):
    ∀(k i:Nat),xs.length-i=k→i≤xs.length→
     Ok P 243 (loopHead P 243 0) ⟨J3 45 [(1,.cv (.lst ys.length (j7 ys))),(5,.sl 0 0 (xs.length+ys.length+1) 1),(6,.fn 258 [.sl 0 0 (xs.length+ys.length+1) 1] []),(20,.cv (.lst xs.length (j7 xs))),
      (21,.cv (.lit (.int .i64 xs.length))),(22,.cv (.lit (.int .i64 i)))],[some (own (j7 (Q7 B32 (xs.length+ys.length+1) (val B32 (xs.take i)*val B32 ys))))]⟩ R:=by
 have hbound:val B32 xs*val B32 ys<B32^(xs.length+ys.length+1):=by
  have h1:=z0z (by decide:0<B32) xs hx
  have h2:=z0z (by decide:0<B32) ys hy
  have h3:val B32 xs*val B32 ys<B32^xs.length*B32^ys.length:=Nat.mul_lt_mul_of_lt_of_le h1 (Nat.le_of_lt h2) (Nat.pow_pos (by decide))
  rw[←Nat.pow_add]at h3
  exact Nat.lt_trans h3 (Nat.pow_lt_pow_right (by decide) (by omega))
 generalize ho:xs.length+ys.length+1=o at*
 intro k
 induction k with
 |zero=>
  intro i hk hi
  have:i=xs.length:=by omega
  subst this
  rw[List.take_length]
  refine zjQ _ _ _ _ _ _ _ (by simp) (j8 _ _ _).symm (U1 (by decide) _ _) (by rw[j8];omega) (z0R (by rw[Q2,j8])) ?_
  rw[show(4294967296:Nat)=B32 from rfl,z06,Nat.mod_eq_of_lt hbound]
  exact hR
 |succ k ih=>
  intro i hk hi
  have hlt:i<xs.length:=by omega
  have e1:(i:Int).toNat*1=i:=by omega
  have dx:=hx.get (by decide) i
  have htk:=X9 (b:=B32) hlt
  have inner : ∀ (q j : Nat), ys.length - j = q → j ≤ ys.length →
      Ok P 243 (loopHead P 243 1) ⟨J3 45 [(1,.cv (.lst ys.length (j7 ys))),(5,.sl 0 0 o 1),(6,.fn 258 [.sl 0 0 o 1] []),(7,.cv (.lit (.int .i64 i))),(8,.cv (.lit (.int .u32 (xs.getD i 0:Nat)))),
       (20,.cv (.lst xs.length (j7 xs))),(21,.cv (.lit (.int .i64 xs.length))),(22,.cv (.lit (.int .i64 i))),(27,.cv (.lst ys.length (j7 ys))),(28,.cv (.lit (.int .i64 ys.length))),(29,.cv (.lit (.int .i64 j)))],
       [some (own (j7 (Q7 B32 o (val B32 (xs.take i)*val B32 ys+xs.getD i 0*val B32 (ys.take j)*B32^i))))]⟩ R:=by
   intro q
   induction q with
   |zero=>
    intro j hq hj
    have:j=ys.length:=by omega
    subst this
    refine zhZ _ _ _ _ _ _ _ _ _ (by simp) (j9 _) hn ?_
    rw[List.take_length,show IntKind.i64.wrap ((i:Int)+1)=((i+1:Nat):Int) by rw[w64 (by omega)];omega]
    have:=ih (i+1) (by omega) (by omega)
    rw[htk,Nat.add_mul,show B32^i*xs.getD i 0*val B32 ys=xs.getD i 0*val B32 ys*B32^i by rw[Nat.mul_comm (B32^i),Nat.mul_assoc,Nat.mul_assoc,Nat.mul_comm (B32^i)]]at this
    exact this
   |succ q ihq=>
    intro j hq hj
    have hjl:j<ys.length:=by omega
    have e2:(j:Int).toNat*1=j:=by omega
    have e3:IntKind.i64.wrap ((i:Int)+(j:Int))=((i+j:Nat):Int):=by rw[w64 (by omega)];omega
    have e4:(((i+j:Nat):Int)).toNat=i+j:=by omega
    have e5:IntKind.i64.wrap ((j:Int)+1)=((j+1:Nat):Int):=by rw[w64 (by omega)];omega
    have dy:=hy.get (by decide) j
    have hty:=X9 (b:=B32) hjl
    have hsum : val B32 (xs.take i) * val B32 ys + xs.getD i 0 * val B32 (ys.take j) * B32 ^ i + xs.getD i 0 * ys.getD j 0 * B32 ^ (i + j) =
        val B32 (xs.take i)*val B32 ys+xs.getD i 0*val B32 (ys.take (j+1))*B32^i:=by
     rw[hty,Nat.mul_add,Nat.add_mul,Nat.pow_add,Nat.add_assoc]
     congr 2
     rw[Nat.mul_comm (B32^j),Nat.mul_assoc (xs.getD i 0),Nat.mul_assoc (xs.getD i 0),Nat.mul_assoc (ys.getD j 0),Nat.mul_comm (B32^j)]
    have hle:val B32 (xs.take i)*val B32 ys+xs.getD i 0*val B32 (ys.take (j+1))*B32^i<B32^o:=by
     refine Nat.lt_of_le_of_lt ?_ hbound
     have h1:val B32 (xs.take (i+1))*val B32 ys≤val B32 xs*val B32 ys:=Nat.mul_le_mul_right _ (z5F _ _)
     rw[htk,Nat.add_mul]at h1
     have h2:xs.getD i 0*val B32 (ys.take (j+1))*B32^i≤B32^i*xs.getD i 0*val B32 ys:=by
      rw[Nat.mul_comm _ (B32^i),←Nat.mul_assoc]
      exact Nat.mul_le_mul_left _ (z5F _ _)
     omega
    refine zie _ _ _ _ _ _ _ _ _ (by simpa using hjl) (by rw[e3];omega) (by omega) (by rw[e3,e4];omega) (by rw[e3,e4,e2];exact hsum ▸ hle) dx (by rw[e2];exact dy) (by omega) (by rw[e2];exact Y0 hjl) (BlksCv.two (j9 _) (j9 _)) (j9 _) hn ?_
    rw[e3,e4,e2,e5,show(4294967296:Nat)=B32 from rfl,hsum]
    exact ihq (j+1) (by omega) (by omega)
  refine ziL _ _ _ _ _ _ _ (by simpa using hlt) (by omega) (by rw[e1];exact Y0 hlt) (j9 _) hn ?_
  have:=inner _ 0 rfl (Nat.zero_le _)
  rw[List.take_zero,show val B32 []=0 from rfl,Nat.mul_zero,Nat.zero_mul,Nat.add_zero]at this
  rw[e1]
  exact this
theorem zeL(a b:Nat)(ha:(dig B32 a).length<2^38)(hb:(dig B32 b).length<2^38):PCall P 243 [z0j a,z0j b] (z0j (a*b)):=by
 have e1:IntKind.i64.wrap (IntKind.i64.wrap (((dig B32 a).length:Int)+(dig B32 b).length)+1)=(((dig B32 a).length+(dig B32 b).length+1:Nat):Int):=by
  rw[w64 (n:=((dig B32 a).length:Int)+(dig B32 b).length) (by omega),w64 (by omega)];omega
 have e2:((((dig B32 a).length+(dig B32 b).length+1:Nat):Int)).toNat=(dig B32 a).length+(dig B32 b).length+1:=by omega
 refine zhU _ _ _ _ (by rw[e1];omega) (by rw[U2];exact j9 _) ?_
 rw[e1,e2,U2,Nat.mul_one]
 have:=zfF (R:= .of (fun x=>x=z0j (a*b))) rfl (dig B32 a) (dig B32 b) ha hb (Y5 (by decide) _) (Y5 (by decide) _) (by rw[Q6 (by decide),Q6 (by decide)];rfl) _ 0 rfl (Nat.zero_le _)
 rw[List.take_zero,show val B32 []=0 from rfl,Nat.zero_mul,z1i]at this
 exact this
end Go.Fw
open Go IntKind
namespace Go.Fw
set_option maxRecDepth 100000
theorem zmp(n:Int)(h1:(decide (n<0))=true)(s7_0:(0:Int)≤u64.wrap ((0:Int)-u64.wrap n))(s7_1:u64.wrap ((0:Int)-u64.wrap n)<18446744073709551616)(s8_0:Sml (u64.wrap ((0:Int)-u64.wrap n)).toNat):PCall P 206 [.lit (.int .i64 n)] (.agg [.lit (.bool (decide (sgn true (u64.wrap ((0:Int)-u64.wrap n)).toNat<0))),.lit (.string (bytesOf (sgn true (u64.wrap ((0:Int)-u64.wrap n)).toNat).natAbs))]):=
 j5 (.b 3 h1 (.r 7 (z6H (u64.wrap ((0:Int)-u64.wrap n)) s7_0 s7_1) (.r 8 (z0A ((u64.wrap ((0:Int)-u64.wrap n)).toNat) (true) s8_0) (.c (lq 2 2) .nil)))) (by kernel_rfl)
theorem zlu(n:Int)(h1:(decide (n<0))=false)(s6_0:(0:Int)≤u64.wrap n)(s6_1:u64.wrap n<18446744073709551616)(s7_0:Sml (u64.wrap n).toNat):PCall P 206 [.lit (.int .i64 n)] (.agg [.lit (.bool (decide (sgn false (u64.wrap n).toNat<0))),.lit (.string (bytesOf (sgn false (u64.wrap n).toNat).natAbs))]):=
 j5 (.b 3 h1 (.r 6 (z6H (u64.wrap n) s6_0 s6_1) (.r 7 (z0A ((u64.wrap n).toNat) (false) s7_0) (.c (lq 2 2) .nil)))) (by kernel_rfl)
theorem zk8(a:Int)(h1:(!decide (a<0))=true):PCall P 189 [J6 a] (.agg [.lit (.bool !(bytesOf a.natAbs).toList==[]),.lit (.string (bytesOf a.natAbs))]):=
 j5 (.r 3 (Z0 (a)) (.b 9 h1 (.c (lq 2 2) .nil))) (by kernel_rfl)
theorem zka(a:Int)(h1:(!decide (a<0))=false):PCall P 189 [J6 a] (.agg [.lit (.bool false),.lit (.string (bytesOf a.natAbs))]):=
 j5 (.r 3 (Z0 (a)) (.b 9 h1 (.c (lq 2 2) .nil))) (by kernel_rfl)
theorem zfe(a:Int)(h1:((bytesOf a.natAbs).toList==[])=true):PCall P 215 [J6 a] (.lit (.int .i64 0)):=
 j5 (.r 3 (Z0 (a)) (.b 11 h1 .nil)) (by kernel_rfl)
theorem zeR(a:Int)(h1:((bytesOf a.natAbs).toList==[])=false)(h2:(decide (a<0))=true):PCall P 215 [J6 a] (.lit (.int .i64 (-1:Int))):=
 j5 (.r 3 (Z0 (a)) (.b 11 h1 (.b 15 h2 .nil))) (by kernel_rfl)
theorem zg3(a:Int)(h1:((bytesOf a.natAbs).toList==[])=false)(h2:(decide (a<0))=false):PCall P 215 [J6 a] (.lit (.int .i64 1)):=
 j5 (.r 3 (Z0 (a)) (.b 11 h1 (.b 15 h2 .nil))) (by kernel_rfl)
theorem zkk(a b:Int)(h1:(decide (a<0)==decide (b<0))=true)(s14_0:Sml a.natAbs)(s17_0:Sml b.natAbs)(s29_0:(dig 4294967296 a.natAbs).length<2^40)(s29_1:(dig 4294967296 b.natAbs).length<2^40)(s32_0:Sml (a.natAbs+b.natAbs)):PCall P 202 [J6 a,J6 b] (.agg [.lit (.bool (decide (sgn (decide (a<0)) (a.natAbs+b.natAbs)<0))),.lit (.string (bytesOf (sgn (decide (a<0)) (a.natAbs+b.natAbs)).natAbs))]):=
 j5 (.r 4 (Z0 (a)) (.r 8 (Z0 (b)) (.r 14 (z0n (a.natAbs) s14_0) (.r 17 (z0n (b.natAbs) s17_0) (.b 26 h1 (.r 29 (zg2 (a.natAbs) (b.natAbs) s29_0 s29_1) (.r 32 (z0A (a.natAbs+b.natAbs) (decide (a<0)) s32_0) (.c (lq 2 2) .nil)))))))) (by kernel_rfl)
theorem zkB(a b:Int)(h1:(decide (a<0)==decide (b<0))=false)(h2:(decide (zb5 a.natAbs b.natAbs (dig 4294967296 a.natAbs).length (dig 4294967296 b.natAbs).length≥0))=true)(s14_0:Sml a.natAbs)(s17_0:Sml b.natAbs)(s29_0:(dig 4294967296 a.natAbs).length<2^62)(s29_1:(dig 4294967296 b.natAbs).length<2^62)(s35_0:(dig 4294967296 a.natAbs).length<2^40)(s35_1:b.natAbs≤a.natAbs)(s38_0:Sml (a.natAbs-b.natAbs)):PCall P 202 [J6 a,J6 b] (.agg [.lit (.bool (decide (sgn (decide (a<0)) (a.natAbs-b.natAbs)<0))),.lit (.string (bytesOf (sgn (decide (a<0)) (a.natAbs-b.natAbs)).natAbs))]):=
 j5 (.r 4 (Z0 (a)) (.r 8 (Z0 (b)) (.r 14 (z0n (a.natAbs) s14_0) (.r 17 (z0n (b.natAbs) s17_0) (.b 26 h1 (.r 29 (cmp_spec (a.natAbs) (b.natAbs) s29_0 s29_1) (.b 32 h2 (.r 35 (z7D (a.natAbs) (b.natAbs) s35_0 s35_1) (.r 38 (z0A (a.natAbs-b.natAbs) (decide (a<0)) s38_0) (.c (lq 2 2) .nil)))))))))) (by kernel_rfl)
theorem zjb(a b:Int)(h1:(decide (a<0)==decide (b<0))=false)(h2:(decide (zb5 a.natAbs b.natAbs (dig 4294967296 a.natAbs).length (dig 4294967296 b.natAbs).length≥0))=false)(s14_0:Sml a.natAbs)(s17_0:Sml b.natAbs)(s29_0:(dig 4294967296 a.natAbs).length<2^62)(s29_1:(dig 4294967296 b.natAbs).length<2^62)(s35_0:(dig 4294967296 b.natAbs).length<2^40)(s35_1:a.natAbs≤b.natAbs)(s38_0:Sml (b.natAbs-a.natAbs)):PCall P 202 [J6 a,J6 b] (.agg [.lit (.bool (decide (sgn (decide (b<0)) (b.natAbs-a.natAbs)<0))),.lit (.string (bytesOf (sgn (decide (b<0)) (b.natAbs-a.natAbs)).natAbs))]):=
 j5 (.r 4 (Z0 (a)) (.r 8 (Z0 (b)) (.r 14 (z0n (a.natAbs) s14_0) (.r 17 (z0n (b.natAbs) s17_0) (.b 26 h1 (.r 29 (cmp_spec (a.natAbs) (b.natAbs) s29_0 s29_1) (.b 32 h2 (.r 35 (z7D (b.natAbs) (a.natAbs) s35_0 s35_1) (.r 38 (z0A (b.natAbs-a.natAbs) (decide (b<0)) s38_0) (.c (lq 2 2) .nil)))))))))) (by kernel_rfl)
theorem zkH(a b:Int)(s14_0:Sml a.natAbs)(s17_0:Sml b.natAbs)(s18_0:(dig 4294967296 a.natAbs).length<2^38)(s18_1:(dig 4294967296 b.natAbs).length<2^38)(s24_0:Sml (a.natAbs*b.natAbs)):PCall P 203 [J6 a,J6 b] (.agg [.lit (.bool (decide (sgn (!decide (a<0)==decide (b<0)) (a.natAbs*b.natAbs)<0))),.lit (.string (bytesOf (sgn (!decide (a<0)==decide (b<0)) (a.natAbs*b.natAbs)).natAbs))]):=
 j5 (.r 4 (Z0 (a)) (.r 8 (Z0 (b)) (.r 14 (z0n (a.natAbs) s14_0) (.r 17 (z0n (b.natAbs) s17_0) (.r 18 (zeL (a.natAbs) (b.natAbs) s18_0 s18_1) (.r 24 (z0A (a.natAbs*b.natAbs) (!decide (a<0)==decide (b<0)) s24_0) (.c (lq 2 2) .nil))))))) (by kernel_rfl)
end Go.Fw
