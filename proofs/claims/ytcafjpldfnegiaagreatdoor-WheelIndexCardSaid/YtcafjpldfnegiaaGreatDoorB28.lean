/- A part of the proof that the law returns true for every input: an executor for the model's code, and what functions of the program compute. -/
import Derived.Test.YtcafjpldfnegiaaGreatDoorB09
import Derived.Test.YtcafjpldfnegiaaGreatDoorB14
import Derived.Test.YtcafjpldfnegiaaGreatDoorB27
import Derived.KernelRfl
open Go
namespace Go.Fw
set_option maxRecDepth 100000

theorem AdK_p1 (x : K) (y : K) (s4_0 : Sm3 x) (s8_0 : Sm3 y) (s13_0 : Sm3 x) (s23_0 : Sm3 y) (s137_0 : M5 (IntKind.i64.wrap (IntKind.i64.wrap (kZ x 0 * kZ y 4) + IntKind.i64.wrap (kZ y 0 * kZ x 4))) (IntKind.i64.wrap (IntKind.i64.wrap (kZ x 1 * kZ y 4) + IntKind.i64.wrap (kZ y 1 * kZ x 4))) (IntKind.i64.wrap (IntKind.i64.wrap (kZ x 2 * kZ y 4) + IntKind.i64.wrap (kZ y 2 * kZ x 4))) (IntKind.i64.wrap (IntKind.i64.wrap (kZ x 3 * kZ y 4) + IntKind.i64.wrap (kZ y 3 * kZ x 4))) (IntKind.i64.wrap (kZ x 4 * kZ y 4))) (s137_1 : (0 : Int) < IntKind.i64.wrap (kZ x 4 * kZ y 4)) : PCall P (37 : FuncId) [numC x, numC y] (numC (K.of (IntKind.i64.wrap (IntKind.i64.wrap (kZ x 0 * kZ y 4) + IntKind.i64.wrap (kZ y 0 * kZ x 4))) (IntKind.i64.wrap (IntKind.i64.wrap (kZ x 1 * kZ y 4) + IntKind.i64.wrap (kZ y 1 * kZ x 4))) (IntKind.i64.wrap (IntKind.i64.wrap (kZ x 2 * kZ y 4) + IntKind.i64.wrap (kZ y 2 * kZ x 4))) (IntKind.i64.wrap (IntKind.i64.wrap (kZ x 3 * kZ y 4) + IntKind.i64.wrap (kZ y 3 * kZ x 4))) (IntKind.i64.wrap (kZ x 4 * kZ y 4)))) :=
  pcallR (ors := [(4, Or.r (CV.lit (Value.bool true))), (8, Or.r (CV.lit (Value.bool true))), (13, Or.r (CV.tup [CV.agg [CV.lit (Value.int IntKind.i64 (kZ x 0)), CV.lit (Value.int IntKind.i64 (kZ x 1)), CV.lit (Value.int IntKind.i64 (kZ x 2)), CV.lit (Value.int IntKind.i64 (kZ x 3)), CV.lit (Value.int IntKind.i64 (kZ x 4))], CV.lit (Value.bool true)])), (23, Or.r (CV.tup [CV.agg [CV.lit (Value.int IntKind.i64 (kZ y 0)), CV.lit (Value.int IntKind.i64 (kZ y 1)), CV.lit (Value.int IntKind.i64 (kZ y 2)), CV.lit (Value.int IntKind.i64 (kZ y 3)), CV.lit (Value.int IntKind.i64 (kZ y 4))], CV.lit (Value.bool true)])), (137, Or.r (numC (K.of (IntKind.i64.wrap (IntKind.i64.wrap (kZ x 0 * kZ y 4) + IntKind.i64.wrap (kZ y 0 * kZ x 4))) (IntKind.i64.wrap (IntKind.i64.wrap (kZ x 1 * kZ y 4) + IntKind.i64.wrap (kZ y 1 * kZ x 4))) (IntKind.i64.wrap (IntKind.i64.wrap (kZ x 2 * kZ y 4) + IntKind.i64.wrap (kZ y 2 * kZ x 4))) (IntKind.i64.wrap (IntKind.i64.wrap (kZ x 3 * kZ y 4) + IntKind.i64.wrap (kZ y 3 * kZ x 4))) (IntKind.i64.wrap (kZ x 4 * kZ y 4)))))]) (by kernel_rfl) (.cons (Go.Fw.RVal_k (x) s4_0) (.cons (Go.Fw.RVal_k (y) s8_0) (.cons (Go.Fw.words_k (x) s13_0) (.cons (show 5 ≤ 5 from (by decide)) (.cons (Go.Fw.words_k (y) s23_0) (.cons (show 5 ≤ 5 from (by decide)) (.cons (show (0 : Int) ≤ (0 : Int) ∧ (0 : Int) < (5 : Int) from (by decide)) (.cons (show (0 : Int) ≤ (4 : Int) ∧ (4 : Int) < (5 : Int) from (by decide)) (.cons (show (0 : Int) ≤ (0 : Int) ∧ (0 : Int) < (5 : Int) from (by decide)) (.cons (show (0 : Int) ≤ (4 : Int) ∧ (4 : Int) < (5 : Int) from (by decide)) (.cons (show (0 : Int) ≤ (0 : Int) ∧ (0 : Int) < (5 : Int) from (by decide)) (.cons (show 1 ≤ 5 from (by decide)) (.cons (show (0 : Int) ≤ (1 : Int) ∧ (1 : Int) < (5 : Int) from (by decide)) (.cons (show (0 : Int) ≤ (4 : Int) ∧ (4 : Int) < (5 : Int) from (by decide)) (.cons (show (0 : Int) ≤ (1 : Int) ∧ (1 : Int) < (5 : Int) from (by decide)) (.cons (show (0 : Int) ≤ (4 : Int) ∧ (4 : Int) < (5 : Int) from (by decide)) (.cons (show (0 : Int) ≤ (1 : Int) ∧ (1 : Int) < (5 : Int) from (by decide)) (.cons (show 2 ≤ 5 from (by decide)) (.cons (show (0 : Int) ≤ (2 : Int) ∧ (2 : Int) < (5 : Int) from (by decide)) (.cons (show (0 : Int) ≤ (4 : Int) ∧ (4 : Int) < (5 : Int) from (by decide)) (.cons (show (0 : Int) ≤ (2 : Int) ∧ (2 : Int) < (5 : Int) from (by decide)) (.cons (show (0 : Int) ≤ (4 : Int) ∧ (4 : Int) < (5 : Int) from (by decide)) (.cons (show (0 : Int) ≤ (2 : Int) ∧ (2 : Int) < (5 : Int) from (by decide)) (.cons (show 3 ≤ 5 from (by decide)) (.cons (show (0 : Int) ≤ (3 : Int) ∧ (3 : Int) < (5 : Int) from (by decide)) (.cons (show (0 : Int) ≤ (4 : Int) ∧ (4 : Int) < (5 : Int) from (by decide)) (.cons (show (0 : Int) ≤ (3 : Int) ∧ (3 : Int) < (5 : Int) from (by decide)) (.cons (show (0 : Int) ≤ (4 : Int) ∧ (4 : Int) < (5 : Int) from (by decide)) (.cons (show (0 : Int) ≤ (3 : Int) ∧ (3 : Int) < (5 : Int) from (by decide)) (.cons (show 4 ≤ 5 from (by decide)) (.cons (show (0 : Int) ≤ (4 : Int) ∧ (4 : Int) < (5 : Int) from (by decide)) (.cons (show (0 : Int) ≤ (4 : Int) ∧ (4 : Int) < (5 : Int) from (by decide)) (.cons (show (0 : Int) ≤ (4 : Int) ∧ (4 : Int) < (5 : Int) from (by decide)) (.cons (show 5 ≤ 5 from (by decide)) (.cons (Go.Fw.rnum5 (IntKind.i64.wrap (IntKind.i64.wrap (kZ x 0 * kZ y 4) + IntKind.i64.wrap (kZ y 0 * kZ x 4))) (IntKind.i64.wrap (IntKind.i64.wrap (kZ x 1 * kZ y 4) + IntKind.i64.wrap (kZ y 1 * kZ x 4))) (IntKind.i64.wrap (IntKind.i64.wrap (kZ x 2 * kZ y 4) + IntKind.i64.wrap (kZ y 2 * kZ x 4))) (IntKind.i64.wrap (IntKind.i64.wrap (kZ x 3 * kZ y 4) + IntKind.i64.wrap (kZ y 3 * kZ x 4))) (IntKind.i64.wrap (kZ x 4 * kZ y 4)) s137_0 s137_1) (.cons (show 10 ≤ 10 from (by decide)) .nil))))))))))))))))))))))))))))))))))))
theorem MuK_p1 (x : K) (y : K) (s4_0 : Sm3 x) (s8_0 : Sm3 y) (s13_0 : Sm3 x) (s23_0 : Sm3 y) (s137_0 : M5 (IntKind.i64.wrap (IntKind.i64.wrap (IntKind.i64.wrap (IntKind.i64.wrap (kZ x 0 * kZ y 0) + IntKind.i64.wrap (IntKind.i64.wrap ((2 : Int) * kZ x 1) * kZ y 1)) + IntKind.i64.wrap (IntKind.i64.wrap ((3 : Int) * kZ x 2) * kZ y 2)) + IntKind.i64.wrap (IntKind.i64.wrap ((6 : Int) * kZ x 3) * kZ y 3))) (IntKind.i64.wrap (IntKind.i64.wrap (IntKind.i64.wrap (IntKind.i64.wrap (kZ x 0 * kZ y 1) + IntKind.i64.wrap (kZ x 1 * kZ y 0)) + IntKind.i64.wrap (IntKind.i64.wrap ((3 : Int) * kZ x 2) * kZ y 3)) + IntKind.i64.wrap (IntKind.i64.wrap ((3 : Int) * kZ x 3) * kZ y 2))) (IntKind.i64.wrap (IntKind.i64.wrap (IntKind.i64.wrap (IntKind.i64.wrap (kZ x 0 * kZ y 2) + IntKind.i64.wrap (kZ x 2 * kZ y 0)) + IntKind.i64.wrap (IntKind.i64.wrap ((2 : Int) * kZ x 1) * kZ y 3)) + IntKind.i64.wrap (IntKind.i64.wrap ((2 : Int) * kZ x 3) * kZ y 1))) (IntKind.i64.wrap (IntKind.i64.wrap (IntKind.i64.wrap (IntKind.i64.wrap (kZ x 0 * kZ y 3) + IntKind.i64.wrap (kZ x 3 * kZ y 0)) + IntKind.i64.wrap (kZ x 1 * kZ y 2)) + IntKind.i64.wrap (kZ x 2 * kZ y 1))) (IntKind.i64.wrap (kZ x 4 * kZ y 4))) (s137_1 : (0 : Int) < IntKind.i64.wrap (kZ x 4 * kZ y 4)) : PCall P (38 : FuncId) [numC x, numC y] (numC (K.of (IntKind.i64.wrap (IntKind.i64.wrap (IntKind.i64.wrap (IntKind.i64.wrap (kZ x 0 * kZ y 0) + IntKind.i64.wrap (IntKind.i64.wrap ((2 : Int) * kZ x 1) * kZ y 1)) + IntKind.i64.wrap (IntKind.i64.wrap ((3 : Int) * kZ x 2) * kZ y 2)) + IntKind.i64.wrap (IntKind.i64.wrap ((6 : Int) * kZ x 3) * kZ y 3))) (IntKind.i64.wrap (IntKind.i64.wrap (IntKind.i64.wrap (IntKind.i64.wrap (kZ x 0 * kZ y 1) + IntKind.i64.wrap (kZ x 1 * kZ y 0)) + IntKind.i64.wrap (IntKind.i64.wrap ((3 : Int) * kZ x 2) * kZ y 3)) + IntKind.i64.wrap (IntKind.i64.wrap ((3 : Int) * kZ x 3) * kZ y 2))) (IntKind.i64.wrap (IntKind.i64.wrap (IntKind.i64.wrap (IntKind.i64.wrap (kZ x 0 * kZ y 2) + IntKind.i64.wrap (kZ x 2 * kZ y 0)) + IntKind.i64.wrap (IntKind.i64.wrap ((2 : Int) * kZ x 1) * kZ y 3)) + IntKind.i64.wrap (IntKind.i64.wrap ((2 : Int) * kZ x 3) * kZ y 1))) (IntKind.i64.wrap (IntKind.i64.wrap (IntKind.i64.wrap (IntKind.i64.wrap (kZ x 0 * kZ y 3) + IntKind.i64.wrap (kZ x 3 * kZ y 0)) + IntKind.i64.wrap (kZ x 1 * kZ y 2)) + IntKind.i64.wrap (kZ x 2 * kZ y 1))) (IntKind.i64.wrap (kZ x 4 * kZ y 4)))) :=
  pcallR (ors := [(4, Or.r (CV.lit (Value.bool true))), (8, Or.r (CV.lit (Value.bool true))), (13, Or.r (CV.tup [CV.agg [CV.lit (Value.int IntKind.i64 (kZ x 0)), CV.lit (Value.int IntKind.i64 (kZ x 1)), CV.lit (Value.int IntKind.i64 (kZ x 2)), CV.lit (Value.int IntKind.i64 (kZ x 3)), CV.lit (Value.int IntKind.i64 (kZ x 4))], CV.lit (Value.bool true)])), (23, Or.r (CV.tup [CV.agg [CV.lit (Value.int IntKind.i64 (kZ y 0)), CV.lit (Value.int IntKind.i64 (kZ y 1)), CV.lit (Value.int IntKind.i64 (kZ y 2)), CV.lit (Value.int IntKind.i64 (kZ y 3)), CV.lit (Value.int IntKind.i64 (kZ y 4))], CV.lit (Value.bool true)])), (137, Or.r (numC (K.of (IntKind.i64.wrap (IntKind.i64.wrap (IntKind.i64.wrap (IntKind.i64.wrap (kZ x 0 * kZ y 0) + IntKind.i64.wrap (IntKind.i64.wrap ((2 : Int) * kZ x 1) * kZ y 1)) + IntKind.i64.wrap (IntKind.i64.wrap ((3 : Int) * kZ x 2) * kZ y 2)) + IntKind.i64.wrap (IntKind.i64.wrap ((6 : Int) * kZ x 3) * kZ y 3))) (IntKind.i64.wrap (IntKind.i64.wrap (IntKind.i64.wrap (IntKind.i64.wrap (kZ x 0 * kZ y 1) + IntKind.i64.wrap (kZ x 1 * kZ y 0)) + IntKind.i64.wrap (IntKind.i64.wrap ((3 : Int) * kZ x 2) * kZ y 3)) + IntKind.i64.wrap (IntKind.i64.wrap ((3 : Int) * kZ x 3) * kZ y 2))) (IntKind.i64.wrap (IntKind.i64.wrap (IntKind.i64.wrap (IntKind.i64.wrap (kZ x 0 * kZ y 2) + IntKind.i64.wrap (kZ x 2 * kZ y 0)) + IntKind.i64.wrap (IntKind.i64.wrap ((2 : Int) * kZ x 1) * kZ y 3)) + IntKind.i64.wrap (IntKind.i64.wrap ((2 : Int) * kZ x 3) * kZ y 1))) (IntKind.i64.wrap (IntKind.i64.wrap (IntKind.i64.wrap (IntKind.i64.wrap (kZ x 0 * kZ y 3) + IntKind.i64.wrap (kZ x 3 * kZ y 0)) + IntKind.i64.wrap (kZ x 1 * kZ y 2)) + IntKind.i64.wrap (kZ x 2 * kZ y 1))) (IntKind.i64.wrap (kZ x 4 * kZ y 4)))))]) (by kernel_rfl) (.cons (Go.Fw.RVal_k (x) s4_0) (.cons (Go.Fw.RVal_k (y) s8_0) (.cons (Go.Fw.words_k (x) s13_0) (.cons (show 5 ≤ 5 from (by decide)) (.cons (Go.Fw.words_k (y) s23_0) (.cons (show 5 ≤ 5 from (by decide)) (.cons (show (0 : Int) ≤ (0 : Int) ∧ (0 : Int) < (5 : Int) from (by decide)) (.cons (show (0 : Int) ≤ (0 : Int) ∧ (0 : Int) < (5 : Int) from (by decide)) (.cons (show (0 : Int) ≤ (1 : Int) ∧ (1 : Int) < (5 : Int) from (by decide)) (.cons (show (0 : Int) ≤ (1 : Int) ∧ (1 : Int) < (5 : Int) from (by decide)) (.cons (show (0 : Int) ≤ (2 : Int) ∧ (2 : Int) < (5 : Int) from (by decide)) (.cons (show (0 : Int) ≤ (2 : Int) ∧ (2 : Int) < (5 : Int) from (by decide)) (.cons (show (0 : Int) ≤ (3 : Int) ∧ (3 : Int) < (5 : Int) from (by decide)) (.cons (show (0 : Int) ≤ (3 : Int) ∧ (3 : Int) < (5 : Int) from (by decide)) (.cons (show (0 : Int) ≤ (0 : Int) ∧ (0 : Int) < (5 : Int) from (by decide)) (.cons (show (0 : Int) ≤ (1 : Int) ∧ (1 : Int) < (5 : Int) from (by decide)) (.cons (show (0 : Int) ≤ (1 : Int) ∧ (1 : Int) < (5 : Int) from (by decide)) (.cons (show (0 : Int) ≤ (0 : Int) ∧ (0 : Int) < (5 : Int) from (by decide)) (.cons (show (0 : Int) ≤ (2 : Int) ∧ (2 : Int) < (5 : Int) from (by decide)) (.cons (show (0 : Int) ≤ (3 : Int) ∧ (3 : Int) < (5 : Int) from (by decide)) (.cons (show (0 : Int) ≤ (3 : Int) ∧ (3 : Int) < (5 : Int) from (by decide)) (.cons (show (0 : Int) ≤ (2 : Int) ∧ (2 : Int) < (5 : Int) from (by decide)) (.cons (show (0 : Int) ≤ (0 : Int) ∧ (0 : Int) < (5 : Int) from (by decide)) (.cons (show (0 : Int) ≤ (2 : Int) ∧ (2 : Int) < (5 : Int) from (by decide)) (.cons (show (0 : Int) ≤ (2 : Int) ∧ (2 : Int) < (5 : Int) from (by decide)) (.cons (show (0 : Int) ≤ (0 : Int) ∧ (0 : Int) < (5 : Int) from (by decide)) (.cons (show (0 : Int) ≤ (1 : Int) ∧ (1 : Int) < (5 : Int) from (by decide)) (.cons (show (0 : Int) ≤ (3 : Int) ∧ (3 : Int) < (5 : Int) from (by decide)) (.cons (show (0 : Int) ≤ (3 : Int) ∧ (3 : Int) < (5 : Int) from (by decide)) (.cons (show (0 : Int) ≤ (1 : Int) ∧ (1 : Int) < (5 : Int) from (by decide)) (.cons (show (0 : Int) ≤ (0 : Int) ∧ (0 : Int) < (5 : Int) from (by decide)) (.cons (show (0 : Int) ≤ (3 : Int) ∧ (3 : Int) < (5 : Int) from (by decide)) (.cons (show (0 : Int) ≤ (3 : Int) ∧ (3 : Int) < (5 : Int) from (by decide)) (.cons (show (0 : Int) ≤ (0 : Int) ∧ (0 : Int) < (5 : Int) from (by decide)) (.cons (show (0 : Int) ≤ (1 : Int) ∧ (1 : Int) < (5 : Int) from (by decide)) (.cons (show (0 : Int) ≤ (2 : Int) ∧ (2 : Int) < (5 : Int) from (by decide)) (.cons (show (0 : Int) ≤ (2 : Int) ∧ (2 : Int) < (5 : Int) from (by decide)) (.cons (show (0 : Int) ≤ (1 : Int) ∧ (1 : Int) < (5 : Int) from (by decide)) (.cons (show (0 : Int) ≤ (4 : Int) ∧ (4 : Int) < (5 : Int) from (by decide)) (.cons (show (0 : Int) ≤ (4 : Int) ∧ (4 : Int) < (5 : Int) from (by decide)) (.cons (Go.Fw.rnum5 (IntKind.i64.wrap (IntKind.i64.wrap (IntKind.i64.wrap (IntKind.i64.wrap (kZ x 0 * kZ y 0) + IntKind.i64.wrap (IntKind.i64.wrap ((2 : Int) * kZ x 1) * kZ y 1)) + IntKind.i64.wrap (IntKind.i64.wrap ((3 : Int) * kZ x 2) * kZ y 2)) + IntKind.i64.wrap (IntKind.i64.wrap ((6 : Int) * kZ x 3) * kZ y 3))) (IntKind.i64.wrap (IntKind.i64.wrap (IntKind.i64.wrap (IntKind.i64.wrap (kZ x 0 * kZ y 1) + IntKind.i64.wrap (kZ x 1 * kZ y 0)) + IntKind.i64.wrap (IntKind.i64.wrap ((3 : Int) * kZ x 2) * kZ y 3)) + IntKind.i64.wrap (IntKind.i64.wrap ((3 : Int) * kZ x 3) * kZ y 2))) (IntKind.i64.wrap (IntKind.i64.wrap (IntKind.i64.wrap (IntKind.i64.wrap (kZ x 0 * kZ y 2) + IntKind.i64.wrap (kZ x 2 * kZ y 0)) + IntKind.i64.wrap (IntKind.i64.wrap ((2 : Int) * kZ x 1) * kZ y 3)) + IntKind.i64.wrap (IntKind.i64.wrap ((2 : Int) * kZ x 3) * kZ y 1))) (IntKind.i64.wrap (IntKind.i64.wrap (IntKind.i64.wrap (IntKind.i64.wrap (kZ x 0 * kZ y 3) + IntKind.i64.wrap (kZ x 3 * kZ y 0)) + IntKind.i64.wrap (kZ x 1 * kZ y 2)) + IntKind.i64.wrap (kZ x 2 * kZ y 1))) (IntKind.i64.wrap (kZ x 4 * kZ y 4)) s137_0 s137_1) (.cons (show 10 ≤ 10 from (by decide)) .nil))))))))))))))))))))))))))))))))))))))))))
theorem NeK_p1 (x : K) (s3_0 : Sm3 x) : PCall P (41 : FuncId) [numC x] (CV.agg [CV.lit (Value.bool (decide (-x.c0 < (0 : Int)))), CV.lit (Value.string (bytesOf (-x.c0).natAbs)), CV.lit (Value.bool (decide (-x.c1 < (0 : Int)))), CV.lit (Value.string (bytesOf (-x.c1).natAbs)), CV.lit (Value.bool (decide (-x.c2 < (0 : Int)))), CV.lit (Value.string (bytesOf (-x.c2).natAbs)), CV.lit (Value.bool (decide (-x.c3 < (0 : Int)))), CV.lit (Value.string (bytesOf (-x.c3).natAbs)), CV.lit (Value.bool (decide (x.d < (0 : Int)))), CV.lit (Value.string (bytesOf x.d.natAbs))]) :=
  pcallR (ors := [(3, Or.r (CV.lit (Value.bool true))), (19, Or.r (CV.agg [CV.lit (Value.bool (decide (-x.c0 < (0 : Int)))), CV.lit (Value.string (bytesOf (-x.c0).natAbs))])), (35, Or.r (CV.agg [CV.lit (Value.bool (decide (-x.c1 < (0 : Int)))), CV.lit (Value.string (bytesOf (-x.c1).natAbs))])), (51, Or.r (CV.agg [CV.lit (Value.bool (decide (-x.c2 < (0 : Int)))), CV.lit (Value.string (bytesOf (-x.c2).natAbs))])), (67, Or.r (CV.agg [CV.lit (Value.bool (decide (-x.c3 < (0 : Int)))), CV.lit (Value.string (bytesOf (-x.c3).natAbs))]))]) (by kernel_rfl) (.cons (Go.Fw.RVal_k (x) s3_0) (.cons (show 10 ≤ 10 from (by decide)) (.cons (show (0 : Int) ≤ (0 : Int) ∧ (0 : Int) < (4 : Int) from (by decide)) (.cons (Go.Fw.RNeg_spec (x.c0)) (.cons (show (0 : Int) ≤ (0 : Int) ∧ (0 : Int) < (4 : Int) from (by decide)) (.cons (show 2 ≤ 10 from (by decide)) (.cons (show (0 : Int) ≤ (1 : Int) ∧ (1 : Int) < (4 : Int) from (by decide)) (.cons (Go.Fw.RNeg_spec (x.c1)) (.cons (show (0 : Int) ≤ (1 : Int) ∧ (1 : Int) < (4 : Int) from (by decide)) (.cons (show 4 ≤ 10 from (by decide)) (.cons (show (0 : Int) ≤ (2 : Int) ∧ (2 : Int) < (4 : Int) from (by decide)) (.cons (Go.Fw.RNeg_spec (x.c2)) (.cons (show (0 : Int) ≤ (2 : Int) ∧ (2 : Int) < (4 : Int) from (by decide)) (.cons (show 6 ≤ 10 from (by decide)) (.cons (show (0 : Int) ≤ (3 : Int) ∧ (3 : Int) < (4 : Int) from (by decide)) (.cons (Go.Fw.RNeg_spec (x.c3)) (.cons (show (0 : Int) ≤ (3 : Int) ∧ (3 : Int) < (4 : Int) from (by decide)) (.cons (show 8 ≤ 10 from (by decide)) (.cons (show 10 ≤ 10 from (by decide)) .nil)))))))))))))))))))
end Go.Fw
open Go
namespace Go.Fw
set_option maxRecDepth 100000
theorem wa_l (a b : Int) : IntKind.i64.wrap (IntKind.i64.wrap a + b) = IntKind.i64.wrap (a + b) := by simp only [IntKind.wrap_i64]; omega
theorem wa_r (a b : Int) : IntKind.i64.wrap (a + IntKind.i64.wrap b) = IntKind.i64.wrap (a + b) := by simp only [IntKind.wrap_i64]; omega
theorem ws_l (a b : Int) : IntKind.i64.wrap (IntKind.i64.wrap a - b) = IntKind.i64.wrap (a - b) := by simp only [IntKind.wrap_i64]; omega
theorem ws_r (a b : Int) : IntKind.i64.wrap (a - IntKind.i64.wrap b) = IntKind.i64.wrap (a - b) := by simp only [IntKind.wrap_i64]; omega
theorem w_per (a k : Int) : IntKind.i64.wrap (a + k * 18446744073709551616) = IntKind.i64.wrap a := by simp only [IntKind.wrap_i64]; omega
theorem w_ex (a : Int) : ∃ k, IntKind.i64.wrap a = a + k * 18446744073709551616 := by
  refine ⟨(IntKind.i64.wrap a - a) / 18446744073709551616, ?_⟩
  simp only [IntKind.wrap_i64]; omega
theorem wm_l (a b : Int) : IntKind.i64.wrap (IntKind.i64.wrap a * b) = IntKind.i64.wrap (a * b) := by
  obtain ⟨k, hk⟩ := w_ex a
  rw [hk, Int.add_mul, show k * 18446744073709551616 * b = (k * b) * 18446744073709551616 by rw [Int.mul_assoc, Int.mul_comm _ b, ← Int.mul_assoc], w_per]
theorem wm_r (a b : Int) : IntKind.i64.wrap (a * IntKind.i64.wrap b) = IntKind.i64.wrap (a * b) := by rw [Int.mul_comm, wm_l, Int.mul_comm]
theorem prod48 {a b : Int} (ha : a.natAbs < 256 ^ 3) (hb : b.natAbs < 256 ^ 3) : (a * b).natAbs < 281474976710656 := by
  rw [Int.natAbs_mul]
  exact Nat.mul_lt_mul'' ha hb
theorem num_of {a b c d e a' b' c' d' e' : Int} (h0 : a = a') (h1 : b = b') (h2 : c = c') (h3 : d = d') (h4 : e = e') : numC (K.of a b c d e) = numC (K.of a' b' c' d' e') := by rw [h0, h1, h2, h3, h4]
theorem RAdd_s (x y : K) (hx : Sm3 x) (hy : Sm3 y) : PCall P 37 [numC x, numC y] (numC (x + y)) := by
  have p (i j : Nat) (hi : i < 5) (hj : j < 5) := prod48 (hx i hi) (hy j hj)
  have q (i j : Nat) (hi : i < 5) (hj : j < 5) := prod48 (hy i hi) (hx j hj)
  have e (i : Nat) (hi : i < 4) : IntKind.i64.wrap (IntKind.i64.wrap (kZ x i * kZ y 4) + IntKind.i64.wrap (kZ y i * kZ x 4)) = kZ x i * kZ y 4 + kZ y i * kZ x 4 := by
    have h1 := p i 4 (by omega) (by decide)
    have h2 := q i 4 (by omega) (by decide)
    generalize kZ x i * kZ y 4 = X at *
    generalize kZ y i * kZ x 4 = Y at *
    rw [wa_l, wa_r, w64 (by omega)]
  have e4 : IntKind.i64.wrap (kZ x 4 * kZ y 4) = kZ x 4 * kZ y 4 := by
    have h1 := p 4 4 (by decide) (by decide)
    rw [w64 (by omega)]
  have bd (i : Nat) (hi : i < 4) : (kZ x i * kZ y 4 + kZ y i * kZ x 4).natAbs < 2 ^ 63 := by
    have h1 := p i 4 (by omega) (by decide)
    have h2 := q i 4 (by omega) (by decide)
    omega
  have := AdK_p1 x y hx hy hx hy (by
    rw [e 0 (by decide), e 1 (by decide), e 2 (by decide), e 3 (by decide), e4]
    exact ⟨bd 0 (by decide), bd 1 (by decide), bd 2 (by decide), bd 3 (by decide), by have := p 4 4 (by decide) (by decide); omega⟩) (by rw [e4]; exact Int.mul_pos x.pos y.pos)
  exact this.eq (num_of (e 0 (by decide)) (e 1 (by decide)) (e 2 (by decide)) (e 3 (by decide)) e4)
theorem RMul_s (x y : K) (hx : Sm3 x) (hy : Sm3 y) : PCall P 38 [numC x, numC y] (numC (x * y)) := by
  have p (i j : Nat) (hi : i < 5) (hj : j < 5) := prod48 (hx i hi) (hy j hj)
  have e (A B C D : Int) (k l m : Int) (hA : A.natAbs < 281474976710656) (hB : B.natAbs < 281474976710656) (hC : C.natAbs < 281474976710656) (hD : D.natAbs < 281474976710656)
      (hk : 0 < k ∧ k ≤ 6) (hl : 0 < l ∧ l ≤ 6) (hm : 0 < m ∧ m ≤ 6) : IntKind.i64.wrap (A + k * B + l * C + m * D) = A + k * B + l * C + m * D ∧ (A + k * B + l * C + m * D).natAbs < 2 ^ 63 := by
    have g (k B : Int) (hk : 0 < k ∧ k ≤ 6) (hB : B.natAbs < 281474976710656) : (k * B).natAbs < 1688849860263936 := by
      rw [Int.natAbs_mul]
      have := Nat.mul_le_mul (show k.natAbs ≤ 6 by omega) (Nat.le_of_lt_succ (show B.natAbs < 281474976710655 + 1 from hB))
      omega
    have g1 := g k B hk hB
    have g2 := g l C hl hC
    have g3 := g m D hm hD
    generalize k * B = X at *
    generalize l * C = Y at *
    generalize m * D = Z at *
    constructor
    · rw [w64 (by omega)]
    · omega
  have f := e
  have w1 : ∀ X Y Z W : Int, IntKind.i64.wrap (IntKind.i64.wrap (IntKind.i64.wrap (IntKind.i64.wrap X + IntKind.i64.wrap Y) + IntKind.i64.wrap Z) + IntKind.i64.wrap W) = IntKind.i64.wrap (X + Y + Z + W) := by
    intro X Y Z W
    simp only [wa_l, wa_r]
  have w2 : ∀ c X Y : Int, IntKind.i64.wrap (IntKind.i64.wrap (c * X) * Y) = IntKind.i64.wrap (c * (X * Y)) := by intro c X Y; rw [wm_l, Int.mul_assoc]
  have q := fun i j hi hj => p i j hi hj
  obtain ⟨a0, b0⟩ := e _ _ _ _ 2 3 6 (p 0 0 (by decide) (by decide)) (p 1 1 (by decide) (by decide)) (p 2 2 (by decide) (by decide)) (p 3 3 (by decide) (by decide)) (by decide) (by decide) (by decide)
  obtain ⟨a1, b1⟩ := e _ _ _ _ 1 3 3 (p 0 1 (by decide) (by decide)) (p 1 0 (by decide) (by decide)) (p 2 3 (by decide) (by decide)) (p 3 2 (by decide) (by decide)) (by decide) (by decide) (by decide)
  obtain ⟨a2, b2⟩ := e _ _ _ _ 1 2 2 (p 0 2 (by decide) (by decide)) (p 2 0 (by decide) (by decide)) (p 1 3 (by decide) (by decide)) (p 3 1 (by decide) (by decide)) (by decide) (by decide) (by decide)
  obtain ⟨a3, b3⟩ := e _ _ _ _ 1 1 1 (p 0 3 (by decide) (by decide)) (p 3 0 (by decide) (by decide)) (p 1 2 (by decide) (by decide)) (p 2 1 (by decide) (by decide)) (by decide) (by decide) (by decide)
  simp only [Int.one_mul] at a1 a2 a3 b1 b2 b3
  have e4 : IntKind.i64.wrap (kZ x 4 * kZ y 4) = kZ x 4 * kZ y 4 := by
    have h1 := p 4 4 (by decide) (by decide)
    rw [w64 (by omega)]
  have w3 : ∀ c X Y : Int, IntKind.i64.wrap (IntKind.i64.wrap (c * X) * Y) = IntKind.i64.wrap (c * (X * Y)) := w2
  have := MuK_p1 x y hx hy hx hy (by
    simp only [w2, w1, a0, a1, a2, a3, e4]
    exact ⟨b0, b1, b2, b3, by have := p 4 4 (by decide) (by decide); omega⟩) (by rw [e4]; exact Int.mul_pos x.pos y.pos)
  refine this.eq ?_
  simp only [w2, w1, a0, a1, a2, a3, e4]
  refine num_of ?_ ?_ ?_ ?_ rfl <;> first | rfl | (simp only [← Int.mul_assoc]; rfl)
theorem RNegN_s (x : K) (hx : Sm3 x) : PCall P 41 [numC x] (numC (-x)) := NeK_p1 x hx
theorem Sm3.neg {x : K} (h : Sm3 x) : Sm3 (-x) := by
  intro i hi
  have : i = 0 ∨ i = 1 ∨ i = 2 ∨ i = 3 ∨ i = 4 := by omega
  rcases this with rfl | rfl | rfl | rfl | rfl
  · show (-x.c0).natAbs < _; rw [Int.natAbs_neg]; exact h 0 (by decide)
  · show (-x.c1).natAbs < _; rw [Int.natAbs_neg]; exact h 1 (by decide)
  · show (-x.c2).natAbs < _; rw [Int.natAbs_neg]; exact h 2 (by decide)
  · show (-x.c3).natAbs < _; rw [Int.natAbs_neg]; exact h 3 (by decide)
  · exact h 4 (by decide)
end Go.Fw
open Go
namespace Go.Fw
set_option maxRecDepth 100000
theorem intC_nat (n : Nat) : intC (n : Int) = .agg [.lit (.bool false), cstr (bytesOf n)] := by
  rw [intC, Int.natAbs_natCast, decide_eq_false (by omega)]
theorem RSmall_nat (n : Nat) (h : n < 256 ^ 7) : PCall P 194 [.agg [.lit (.bool false), cstr (bytesOf n)]] (.tup [ci64 (n : Int), .lit (.bool true)]) := by
  have := RSmall_spec (n : Int) (by rwa [Int.natAbs_natCast])
  rwa [intC_nat] at this
end Go.Fw
open Go
namespace Go.Fw
set_option maxRecDepth 100000
theorem rtrim1 : MCall P 234 [some [.cv (ci64 0)]] [.sl 0 0 1 1] (.sl 0 0 0 1) [some [.cv (ci64 0)]] := rtrim_lent 1 [0] rfl (by decide)
theorem rdigits4 : FCall P 195 [cstr (bytesOf 4)] (.sl 0 0 1 1) [ci64 4] := digits_fresh (bytesOf 4) (by decide)
theorem rdigits1 : FCall P 195 [cstr (bytesOf 1)] (.sl 0 0 1 1) [ci64 1] := digits_fresh (bytesOf 1) (by decide)
end Go.Fw
open Go
namespace Go.Fw
set_option maxRecDepth 100000

theorem GcS_p1 (a : Int) (b : Int) (h1 : decide ((↑(bytesOf a.natAbs).size : Int) ≤ (7 : Int)) = true) (h2 : decide ((↑(bytesOf b.natAbs).size : Int) ≤ (7 : Int)) = true) (s26_0 : a.natAbs < 256 ^ 7) (s35_0 : b.natAbs < 256 ^ 7) {R : CV → Prop} (hR : Ok P (184 : FuncId) (loopHead P (184 : FuncId) 0) ⟨mkTm 111 [(4, MV.ptr 0 0), (5, MV.cv (CV.lit (Value.int IntKind.i64 (↑a.natAbs : Int)))), (7, MV.cv (CV.lit (Value.int IntKind.i64 (↑b.natAbs : Int))))], [some [MV.cv (CV.lit (Value.bool false)), MV.cv (CV.lit (Value.string { data := #[] }))]]⟩ (.of R)) : PCallQ P (184 : FuncId) [intC a, intC b] R :=
  pcallS (keep := [4, 5, 7]) (σ := [2]) (ors := [(4, Or.r (CV.lit (Value.bool true))), (8, Or.r (CV.lit (Value.bool true))), (16, Or.b true), (22, Or.b true), (26, Or.r (CV.tup [CV.lit (Value.int IntKind.i64 (↑a.natAbs : Int)), CV.lit (Value.bool true)])), (35, Or.r (CV.tup [CV.lit (Value.int IntKind.i64 (↑b.natAbs : Int)), CV.lit (Value.bool true)])), (41, Or.stop)]) (by kernel_rfl) rfl (.cons (Go.Fw.rValid_int (a)) (.cons (Go.Fw.rValid_int (b)) (.cons h1 (.cons h2 (.cons (Go.Fw.RSmall_nat (a.natAbs) s26_0) (.cons (Go.Fw.RSmall_nat (b.natAbs) s35_0) (.cons (show CvL [MV.cv (CV.lit (Value.bool false)), MV.cv (CV.lit (Value.string { data := #[] }))] from (by simp [CvL])) .nil))))))) hR
theorem GcL_p1 (n : Int) (m : Int) (h1 : (m != (0 : Int)) = true) (o1 : m ≠ (0 : Int)) {R : Goal} (hn : lentOk R.n [0] = true) (hR : Ok P (184 : FuncId) (loopHead P (184 : FuncId) 0) ⟨mkTm 111 [(4, MV.ptr 0 0), (5, MV.cv (CV.lit (Value.int IntKind.i64 m))), (7, MV.cv (CV.lit (Value.int IntKind.i64 (n.tmod m))))], [some [MV.cv (CV.lit (Value.bool false)), MV.cv (CV.lit (Value.string { data := #[] }))]]⟩ R) : Ok P (184 : FuncId) (loopHead P (184 : FuncId) 0) ({ tm := mkTm 111 [(4, MV.ptr 0 0), (5, MV.cv (ci64 n)), (7, MV.cv (ci64 m))], hp := [some [MV.cv (CV.lit (Value.bool false)), MV.cv (cstr { data := #[] })]] }) R :=
  okS (keep := [4, 5, 7]) (σ := [0]) (ors := [(3, Or.b true), (10, Or.stop)]) (by kernel_rfl) rfl (.cons h1 (.cons o1 (.cons (show CvL [MV.cv (CV.lit (Value.bool false)), MV.cv (CV.lit (Value.string { data := #[] }))] from (by simp [CvL])) .nil))) hn hR
theorem GcL_p2 (n : Int) (m : Int) (h1 : (m != (0 : Int)) = false) (s5_0 : (-9223372036854775808 : Int) ≤ n ∧ n ≤ (9223372036854775807 : Int)) {R : Goal} (hR : R.c (CV.agg [CV.lit (Value.bool (decide (n < (0 : Int)))), CV.lit (Value.string (bytesOf n.natAbs))])) : Ok P (184 : FuncId) (loopHead P (184 : FuncId) 0) ({ tm := mkTm 111 [(4, MV.ptr 0 0), (5, MV.cv (ci64 n)), (7, MV.cv (ci64 m))], hp := [some [MV.cv (CV.lit (Value.bool false)), MV.cv (cstr { data := #[] })]] }) R :=
  okR (ors := [(3, Or.b false), (5, Or.r (CV.agg [CV.lit (Value.bool (decide (n < (0 : Int)))), CV.lit (Value.string (bytesOf n.natAbs))]))]) (by kernel_rfl) (.cons h1 (.cons (Go.Fw.ROf_spec (n) s5_0) (.cons (show 2 ≤ 2 from (by decide)) .nil))) hR
theorem DmS_p1 (a : Int) (b : Int) (h1 : ((bytesOf b.natAbs).toList == []) = false) (h2 : decide ((↑(bytesOf b.natAbs).size : Int) ≤ (7 : Int)) = true) (h3 : (a.tmod b != (0 : Int)) = false) (s19_0 : a.natAbs < 256 ^ 7) (s34_0 : b.natAbs < 256 ^ 7) (s57_0 : (-9223372036854775808 : Int) ≤ IntKind.i64.wrap (a.tdiv b) ∧ IntKind.i64.wrap (a.tdiv b) ≤ (9223372036854775807 : Int)) (s63_0 : (-9223372036854775808 : Int) ≤ IntKind.i64.wrap (a - IntKind.i64.wrap (IntKind.i64.wrap (a.tdiv b) * b)) ∧ IntKind.i64.wrap (a - IntKind.i64.wrap (IntKind.i64.wrap (a.tdiv b) * b)) ≤ (9223372036854775807 : Int)) (o6 : b ≠ (0 : Int)) (o7 : b ≠ (0 : Int)) : PCall P (233 : FuncId) [intC a, intC b] (CV.tup [CV.agg [CV.lit (Value.bool (decide (IntKind.i64.wrap (a.tdiv b) < (0 : Int)))), CV.lit (Value.string (bytesOf (IntKind.i64.wrap (a.tdiv b)).natAbs))], CV.agg [CV.lit (Value.bool (decide (IntKind.i64.wrap (a - IntKind.i64.wrap (IntKind.i64.wrap (a.tdiv b) * b)) < (0 : Int)))), CV.lit (Value.string (bytesOf (IntKind.i64.wrap (a - IntKind.i64.wrap (IntKind.i64.wrap (a.tdiv b) * b))).natAbs))], CV.lit (Value.int IntKind.i64 (0 : Int))]) :=
  pcallR (ors := [(6, Or.r (CV.lit (Value.bool true))), (10, Or.r (CV.lit (Value.bool true))), (17, Or.b false), (19, Or.r (CV.tup [CV.lit (Value.int IntKind.i64 a), CV.lit (Value.bool true)])), (32, Or.b true), (34, Or.r (CV.tup [CV.lit (Value.int IntKind.i64 b), CV.lit (Value.bool true)])), (48, Or.b false), (57, Or.r (CV.agg [CV.lit (Value.bool (decide (IntKind.i64.wrap (a.tdiv b) < (0 : Int)))), CV.lit (Value.string (bytesOf (IntKind.i64.wrap (a.tdiv b)).natAbs))])), (63, Or.r (CV.agg [CV.lit (Value.bool (decide (IntKind.i64.wrap (a - IntKind.i64.wrap (IntKind.i64.wrap (a.tdiv b) * b)) < (0 : Int)))), CV.lit (Value.string (bytesOf (IntKind.i64.wrap (a - IntKind.i64.wrap (IntKind.i64.wrap (a.tdiv b) * b))).natAbs))]))]) (by kernel_rfl) (.cons (Go.Fw.rValid_int (a)) (.cons (Go.Fw.rValid_int (b)) (.cons h1 (.cons (Go.Fw.RSmall_spec (a) s19_0) (.cons h2 (.cons (Go.Fw.RSmall_spec (b) s34_0) (.cons o6 (.cons o7 (.cons h3 (.cons (Go.Fw.ROf_spec (IntKind.i64.wrap (a.tdiv b)) s57_0) (.cons (Go.Fw.ROf_spec (IntKind.i64.wrap (a - IntKind.i64.wrap (IntKind.i64.wrap (a.tdiv b) * b))) s63_0) (.cons (show 2 ≤ 2 from (by decide)) (.cons (show 2 ≤ 2 from (by decide)) .nil)))))))))))))
theorem SuK_p1 (x : K) (y : K) (s5_0 : Sm3 y) (s6_0 : Sm3 x) (s6_1 : Sm3 (-y)) : PCall P (39 : FuncId) [numC x, numC y] (numC (x + -y)) :=
  pcallR (ors := [(5, Or.r (numC (-y))), (6, Or.r (numC (x + -y)))]) (by kernel_rfl) (.cons (Go.Fw.RNegN_s (y) s5_0) (.cons (Go.Fw.RAdd_s (x) (-y) s6_0 s6_1) (.cons (show 10 ≤ 10 from (by decide)) .nil)))
end Go.Fw
open Go
namespace Go.Fw
set_option maxRecDepth 100000

theorem OvS_p1 (a : Int) (b : Int) (_h1 : ((bytesOf b.natAbs).toList == []) = false) (_h : PCall P (233 : FuncId) [intC a, intC b] (CV.tup [intC (a / b), intC (0 : Int), ci64 (0 : Int)])) (o0 : PCall P 233 [CV.agg [CV.lit (Value.bool (decide (a < (0 : Int)))), CV.lit (Value.string (bytesOf a.natAbs))], CV.agg [CV.lit (Value.bool (decide (b < (0 : Int)))), CV.lit (Value.string (bytesOf b.natAbs))]] (CV.tup [CV.agg [CV.lit (Value.bool (decide (a / b < (0 : Int)))), CV.lit (Value.string (bytesOf (a / b).natAbs))], CV.agg [CV.lit (Value.bool false), CV.lit (Value.string (bytesOf 0))], CV.lit (Value.int IntKind.i64 (0 : Int))])) : PCall P (185 : FuncId) [intC a, intC b] (CV.agg [CV.lit (Value.bool (decide (a / b < (0 : Int)))), CV.lit (Value.string (bytesOf (a / b).natAbs))]) :=
  pcallR (ors := [(5, Or.r (CV.tup [intC (a / b), intC (0 : Int), ci64 (0 : Int)]))]) (by kernel_rfl) (.cons o0 (.cons (show 2 ≤ 2 from (by decide)) (.cons (show 2 ≤ 2 from (by decide)) (.cons (show 2 ≤ 2 from (by decide)) .nil))))
end Go.Fw
open Go
namespace Go.Fw
set_option maxRecDepth 100000

theorem RPr4_p1 : PCall P (187 : FuncId) [CV.agg [CV.lit (Value.bool false), cstr (bytesOf 4)]] (CV.lit (Value.string (Utf8.encode (52 : Int) ++ { data := #[] }))) :=
  pcallR (ors := [(3, Or.r (CV.lit (Value.bool true))), (14, Or.f (MV.sl 0 0 1 1) [ci64 (4 : Int)]), (56, Or.m [2] (MV.sl 0 0 0 1) [some [MV.cv (ci64 (0 : Int))]])]) (by kernel_rfl) (.cons (Go.Fw.rValid_spec (false) (bytesOf 4)) (.cons (Go.Fw.rdigits4) (.cons (show (0 : Int) ≤ (0 : Int) ∧ (0 : Int) < (1 : Int) from (by decide)) (.cons (show (10 : Int) ≠ (0 : Int) from (by decide)) (.cons (show (0 : Int) ≤ (0 : Int) ∧ (0 : Int) < (1 : Int) from (by decide)) (.cons (show 1 ≤ 1 from (by decide)) (.cons (show (10 : Int) ≠ (0 : Int) from (by decide)) (.cons (Go.Fw.rtrim1) (.cons (show BlksCv [some [MV.cv (CV.lit (Value.int IntKind.i64 (0 : Int)))], some [MV.cv (CV.lit (Value.int IntKind.i64 (0 : Int)))]] from (by simp [BlksCv, BlkCv])) (.cons (show (1 : Int) ≤ (9223372036854775807 : Int) from (by decide)) .nil))))))))))
theorem RPr1_p1 : PCall P (187 : FuncId) [CV.agg [CV.lit (Value.bool false), cstr (bytesOf 1)]] (CV.lit (Value.string (Utf8.encode (49 : Int) ++ { data := #[] }))) :=
  pcallR (ors := [(3, Or.r (CV.lit (Value.bool true))), (14, Or.f (MV.sl 0 0 1 1) [ci64 (1 : Int)]), (56, Or.m [2] (MV.sl 0 0 0 1) [some [MV.cv (ci64 (0 : Int))]])]) (by kernel_rfl) (.cons (Go.Fw.rValid_spec (false) (bytesOf 1)) (.cons (Go.Fw.rdigits1) (.cons (show (0 : Int) ≤ (0 : Int) ∧ (0 : Int) < (1 : Int) from (by decide)) (.cons (show (10 : Int) ≠ (0 : Int) from (by decide)) (.cons (show (0 : Int) ≤ (0 : Int) ∧ (0 : Int) < (1 : Int) from (by decide)) (.cons (show 1 ≤ 1 from (by decide)) (.cons (show (10 : Int) ≠ (0 : Int) from (by decide)) (.cons (Go.Fw.rtrim1) (.cons (show BlksCv [some [MV.cv (CV.lit (Value.int IntKind.i64 (0 : Int)))], some [MV.cv (CV.lit (Value.int IntKind.i64 (0 : Int)))]] from (by simp [BlksCv, BlkCv])) (.cons (show (1 : Int) ≤ (9223372036854775807 : Int) from (by decide)) .nil))))))))))
end Go.Fw
open Go
namespace Go.Fw
set_option maxRecDepth 100000
theorem RGcd_in {R : Goal} (hn : R.n = 0) (g : Nat) (hR : R.c (intC (g : Int))) : ∀ (m a b : Nat), b ≤ m → a < 2 ^ 63 → b < 2 ^ 63 → Nat.gcd a b = g →
    Ok P 184 (loopHead P 184 0) ⟨mkTm 111 [(4, .ptr 0 0), (5, .cv (ci64 (a : Int))), (7, .cv (ci64 (b : Int)))], [some [.cv (.lit (.bool false)), .cv (cstr ⟨#[]⟩)]]⟩ R
  | m, a, 0, _, ha, _, hg => by
    rw [Nat.gcd_zero_right] at hg
    subst hg
    exact GcL_p2 _ _ rfl (by omega) hR
  | 0, a, b + 1, h, _, _, _ => by omega
  | m + 1, a, b + 1, hm, ha, hb, hg => by
    have hlt : a % (b + 1) < b + 1 := Nat.mod_lt a (Nat.succ_pos b)
    refine GcL_p1 _ _ (by simp; omega) (by omega) (by rw [hn]; rfl) ?_
    rw [Int.tmod_eq_emod_of_nonneg (by omega), show ((a : Int) % ((b + 1 : Nat) : Int)) = ((a % (b + 1) : Nat) : Int) by simp]
    refine RGcd_in hn g hR m (b + 1) (a % (b + 1)) (by omega) hb (by omega) ?_
    rw [← hg, Nat.gcd_comm a (b + 1), Nat.gcd_comm (b + 1) (a % (b + 1)), ← Nat.gcd_rec]
theorem RGcd_s (a b : Int) (ha : a.natAbs < 256 ^ 7) (hb : b.natAbs < 256 ^ 7) : PCall P 184 [intC a, intC b] (intC (Nat.gcd a.natAbs b.natAbs : Nat)) := by
  have h1 : (bytesOf a.natAbs).size ≤ 7 := size_le.2 ha
  have h2 : (bytesOf b.natAbs).size ≤ 7 := size_le.2 hb
  exact pcallQ_eq (GcS_p1 a b (decide_eq_true (by omega)) (decide_eq_true (by omega)) ha hb (RGcd_in rfl _ rfl _ _ _ (Nat.le_refl _) (Nat.lt_trans ha (by decide)) (Nat.lt_trans hb (by decide)) rfl))
theorem RDM_s (a b : Int) (ha : a.natAbs < 256 ^ 7) (hb : b.natAbs < 256 ^ 7) (hb0 : b ≠ 0) (hd : b ∣ a) : PCall P 233 [intC a, intC b] (.tup [intC (a / b), intC 0, ci64 0]) := by
  have h2 : (bytesOf b.natAbs).size ≤ 7 := size_le.2 hb
  have hq : a.tdiv b = a / b := Int.tdiv_eq_ediv_of_dvd hd
  have hl := K.natAbs_ediv_le a b hd
  have hw : IntKind.i64.wrap (a.tdiv b) = a / b := by rw [hq, w64 (by omega)]
  have hz : IntKind.i64.wrap (a - IntKind.i64.wrap (a / b * b)) = 0 := by rw [Int.ediv_mul_cancel hd, w64 (n := a) (by omega), w64 (by omega)]; omega
  have := DmS_p1 a b (by rw [toList_bytesOf]; simpa using hb0) (decide_eq_true (by omega)) (by rw [Int.tmod_eq_zero_of_dvd hd]; rfl) ha hb (by rw [hw]; omega) (by rw [hw, hz]; decide) hb0 hb0
  rw [hw, hz] at this
  exact this
theorem ROver_s (a b : Int) (ha : a.natAbs < 256 ^ 7) (hb : b.natAbs < 256 ^ 7) (hb0 : b ≠ 0) (hd : b ∣ a) : PCall P 185 [intC a, intC b] (intC (a / b)) :=
  OvS_p1 a b (by rw [toList_bytesOf]; simpa using hb0) (RDM_s a b ha hb hb0 hd) (RDM_s a b ha hb hb0 hd)
theorem RSub_s (x y : K) (hx : Sm3 x) (hy : Sm3 y) : PCall P 39 [numC x, numC y] (numC (x - y)) := SuK_p1 x y hy hx hy.neg
end Go.Fw
