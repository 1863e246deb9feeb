/- A part of the proof that the law returns true for every input: an executor for the model's code, and what functions of the program compute. -/
import Derived.Test.YtcafjpldfnegiaaGreatDoorB09
import Derived.Test.YtcafjpldfnegiaaGreatDoorB14
import Derived.Test.YtcafjpldfnegiaaGreatDoorB35
import Derived.Test.YtcafjpldfnegiaaGreatDoorB46
import Derived.KernelRfl
open Go
namespace Go.Fw
def numL (x : K) : List CV := [.lit (.bool (decide (x.c0 < 0))), cstr (bytesOf x.c0.natAbs), .lit (.bool (decide (x.c1 < 0))), cstr (bytesOf x.c1.natAbs), .lit (.bool (decide (x.c2 < 0))), cstr (bytesOf x.c2.natAbs), .lit (.bool (decide (x.c3 < 0))), cstr (bytesOf x.c3.natAbs), .lit (.bool (decide (x.d < 0))), cstr (bytesOf x.d.natAbs)]
/-- A vector as the program's. -/
def vecC (x y z : K) : CV := .agg (numL x ++ (numL y ++ numL z))
end Go.Fw
open Go
namespace Go.Fw
set_option maxRecDepth 100000

theorem FSub_p1 (x : K) (y : K) (s5_0 : Smk y) (s6_0 : x.sz + (-y).sz + 2 < 1073741824) : PCall P (135 : FuncId) [numC x, numC y] (numC (x + -y)) :=
  pcallR (ors := [(5, Or.r (numC (-y))), (6, Or.r (numC (x + -y)))]) (by kernel_rfl) (.cons (Go.Fw.FNeg_K (y) s5_0) (.cons (Go.Fw.FAdd_K (x) (-y) s6_0) (.cons (show 10 ≤ 10 from (by decide)) .nil)))
theorem WRi_p1 (x : K) (y : K) (z : K) (s4_0 : Smk x) (s8_0 : Smk y) (s13_0 : Smk z) : PCall P (134 : FuncId) [vecC x y z] (CV.lit (Value.bool true)) :=
  pcallR (ors := [(4, Or.r (CV.lit (Value.bool true))), (8, Or.r (CV.lit (Value.bool true))), (13, Or.r (CV.lit (Value.bool true)))]) (by kernel_rfl) (.cons (Go.Fw.FValid_K (x) s4_0) (.cons (Go.Fw.FValid_K (y) s8_0) (.cons (Go.Fw.FValid_K (z) s13_0) .nil)))
theorem WMo_p1 (k : Int) : PCall P (57 : FuncId) [CV.lit (Value.int IntKind.u8 k)] (CV.agg [CV.lit (Value.int IntKind.i64 ((IntKind.i64.wrap k).tmod (24 : Int))), CV.lit (Value.bool (decide (k ≥ (128 : Int))))]) :=
  pcallR (ors := []) (by kernel_rfl) (.cons (show (24 : Int) ≠ (0 : Int) from (by decide)) (.cons (show 2 ≤ 2 from (by decide)) .nil))
end Go.Fw
open Go
namespace Go.Fw
theorem FSub_K (x y : K) (h : x.sz + y.sz + 2 < 1073741824) : PCall P 135 [numC x, numC y] (numC (x - y)) := FSub_p1 x y (by simp only [Smk]; omega) (by rw [K.sz_neg]; exact h)
def motT (k : Int) : Int := (IntKind.i64.wrap k).tmod 24
end Go.Fw
open Go
namespace Go.Fw
set_option maxRecDepth 100000

theorem WTu_p1 (x : K) (y : K) (z : K) (i : Int) (s3_0 : Smk x) (s3_1 : Smk y) (s3_2 : Smk z) (s17_0 : x.sz + (cosK i).sz + 2 < 1073741824) (s21_0 : y.sz + (sinK i).sz + 2 < 1073741824) (s22_0 : (x * cosK i).sz + (y * sinK i).sz + 2 < 1073741824) (s26_0 : x.sz + (sinK i).sz + 2 < 1073741824) (s30_0 : y.sz + (cosK i).sz + 2 < 1073741824) (s31_0 : (x * sinK i).sz + (y * cosK i).sz + 2 < 1073741824) : PCall P (49 : FuncId) [vecC x y z, ci64 i] (CV.agg [CV.lit (Value.bool (decide ((x * cosK i - y * sinK i).c0 < (0 : Int)))), CV.lit (Value.string (bytesOf (x * cosK i - y * sinK i).c0.natAbs)), CV.lit (Value.bool (decide ((x * cosK i - y * sinK i).c1 < (0 : Int)))), CV.lit (Value.string (bytesOf (x * cosK i - y * sinK i).c1.natAbs)), CV.lit (Value.bool (decide ((x * cosK i - y * sinK i).c2 < (0 : Int)))), CV.lit (Value.string (bytesOf (x * cosK i - y * sinK i).c2.natAbs)), CV.lit (Value.bool (decide ((x * cosK i - y * sinK i).c3 < (0 : Int)))), CV.lit (Value.string (bytesOf (x * cosK i - y * sinK i).c3.natAbs)), CV.lit (Value.bool (decide ((x * cosK i - y * sinK i).d < (0 : Int)))), CV.lit (Value.string (bytesOf (x * cosK i - y * sinK i).d.natAbs)), CV.lit (Value.bool (decide ((x * sinK i + y * cosK i).c0 < (0 : Int)))), CV.lit (Value.string (bytesOf (x * sinK i + y * cosK i).c0.natAbs)), CV.lit (Value.bool (decide ((x * sinK i + y * cosK i).c1 < (0 : Int)))), CV.lit (Value.string (bytesOf (x * sinK i + y * cosK i).c1.natAbs)), CV.lit (Value.bool (decide ((x * sinK i + y * cosK i).c2 < (0 : Int)))), CV.lit (Value.string (bytesOf (x * sinK i + y * cosK i).c2.natAbs)), CV.lit (Value.bool (decide ((x * sinK i + y * cosK i).c3 < (0 : Int)))), CV.lit (Value.string (bytesOf (x * sinK i + y * cosK i).c3.natAbs)), CV.lit (Value.bool (decide ((x * sinK i + y * cosK i).d < (0 : Int)))), CV.lit (Value.string (bytesOf (x * sinK i + y * cosK i).d.natAbs)), CV.lit (Value.bool (decide (z.c0 < (0 : Int)))), CV.lit (Value.string (bytesOf z.c0.natAbs)), CV.lit (Value.bool (decide (z.c1 < (0 : Int)))), CV.lit (Value.string (bytesOf z.c1.natAbs)), CV.lit (Value.bool (decide (z.c2 < (0 : Int)))), CV.lit (Value.string (bytesOf z.c2.natAbs)), CV.lit (Value.bool (decide (z.c3 < (0 : Int)))), CV.lit (Value.string (bytesOf z.c3.natAbs)), CV.lit (Value.bool (decide (z.d < (0 : Int)))), CV.lit (Value.string (bytesOf z.d.natAbs))]) :=
  pcallR (ors := [(3, Or.r (CV.lit (Value.bool true))), (7, Or.r (numC (cosK i))), (9, Or.r (numC (sinK i))), (17, Or.r (numC (x * cosK i))), (21, Or.r (numC (y * sinK i))), (22, Or.r (numC (x * cosK i - y * sinK i))), (26, Or.r (numC (x * sinK i))), (30, Or.r (numC (y * cosK i))), (31, Or.r (numC (x * sinK i + y * cosK i)))]) (by kernel_rfl) (.cons (Go.Fw.WRi_p1 (x) (y) (z) s3_0 s3_1 s3_2) (.cons (Go.Fw.WCos_spec (i)) (.cons (Go.Fw.WSin_spec (i)) (.cons (show 10 ≤ 10 from (by decide)) (.cons (show 10 ≤ 10 from (by decide)) (.cons (Go.Fw.FMul_K (x) (cosK i) s17_0) (.cons (Go.Fw.FMul_K (y) (sinK i) s21_0) (.cons (Go.Fw.FSub_K (x * cosK i) (y * sinK i) s22_0) (.cons (Go.Fw.FMul_K (x) (sinK i) s26_0) (.cons (Go.Fw.FMul_K (y) (cosK i) s30_0) (.cons (Go.Fw.FAdd_K (x * sinK i) (y * cosK i) s31_0) (.cons (show 30 ≤ 30 from (by decide)) .nil))))))))))))
theorem WFl_p1 (x : K) (y : K) (z : K) (s3_0 : Smk x) (s3_1 : Smk y) (s3_2 : Smk z) (s8_0 : Smk y) : PCall P (51 : FuncId) [vecC x y z] (CV.agg [CV.lit (Value.bool (decide (x.c0 < (0 : Int)))), CV.lit (Value.string (bytesOf x.c0.natAbs)), CV.lit (Value.bool (decide (x.c1 < (0 : Int)))), CV.lit (Value.string (bytesOf x.c1.natAbs)), CV.lit (Value.bool (decide (x.c2 < (0 : Int)))), CV.lit (Value.string (bytesOf x.c2.natAbs)), CV.lit (Value.bool (decide (x.c3 < (0 : Int)))), CV.lit (Value.string (bytesOf x.c3.natAbs)), CV.lit (Value.bool (decide (x.d < (0 : Int)))), CV.lit (Value.string (bytesOf x.d.natAbs)), CV.lit (Value.bool (decide ((-y).c0 < (0 : Int)))), CV.lit (Value.string (bytesOf (-y).c0.natAbs)), CV.lit (Value.bool (decide ((-y).c1 < (0 : Int)))), CV.lit (Value.string (bytesOf (-y).c1.natAbs)), CV.lit (Value.bool (decide ((-y).c2 < (0 : Int)))), CV.lit (Value.string (bytesOf (-y).c2.natAbs)), CV.lit (Value.bool (decide ((-y).c3 < (0 : Int)))), CV.lit (Value.string (bytesOf (-y).c3.natAbs)), CV.lit (Value.bool (decide ((-y).d < (0 : Int)))), CV.lit (Value.string (bytesOf (-y).d.natAbs)), CV.lit (Value.bool (decide (z.c0 < (0 : Int)))), CV.lit (Value.string (bytesOf z.c0.natAbs)), CV.lit (Value.bool (decide (z.c1 < (0 : Int)))), CV.lit (Value.string (bytesOf z.c1.natAbs)), CV.lit (Value.bool (decide (z.c2 < (0 : Int)))), CV.lit (Value.string (bytesOf z.c2.natAbs)), CV.lit (Value.bool (decide (z.c3 < (0 : Int)))), CV.lit (Value.string (bytesOf z.c3.natAbs)), CV.lit (Value.bool (decide (z.d < (0 : Int)))), CV.lit (Value.string (bytesOf z.d.natAbs))]) :=
  pcallR (ors := [(3, Or.r (CV.lit (Value.bool true))), (8, Or.r (numC (-y)))]) (by kernel_rfl) (.cons (Go.Fw.WRi_p1 (x) (y) (z) s3_0 s3_1 s3_2) (.cons (Go.Fw.FNeg_K (y) s8_0) (.cons (show 20 ≤ 30 from (by decide)) (.cons (show 30 ≤ 30 from (by decide)) .nil))))
end Go.Fw
open Go
namespace Go.Fw
set_option maxRecDepth 100000
theorem sz_small {x : K} (h : sm3b x = true) : x.sz ≤ 1 := by
  simp only [sm3b, Bool.and_eq_true, decide_eq_true_eq] at h
  rw [K.sz_le]
  exact ⟨h.1.1.1.1, h.1.1.1.2, h.1.1.2, h.1.2, h.2⟩
theorem sz_cos (i : Int) : (cosK i).sz ≤ 1 := by
  obtain ⟨a, ha⟩ := ex24 i
  rw [cos_at ha]; exact sz_small (circ4 a).1
theorem sz_sin (i : Int) : (sinK i).sz ≤ 1 := by
  obtain ⟨a, ha⟩ := ex24 i
  rw [sin_at ha]; exact sz_small (circ4 a).2
theorem WTurn_K (x y z : K) (i : Int) (hx : x.sz ≤ 1000000) (hy : y.sz ≤ 1000000) (hz : z.sz ≤ 1000000) :
    PCall P 49 [vecC x y z, ci64 i] (vecC (x * cosK i - y * sinK i) (x * sinK i + y * cosK i) z) := by
  have c := sz_cos i
  have s := sz_sin i
  have m1 := K.sz_mul x (cosK i)
  have m2 := K.sz_mul y (sinK i)
  have m3 := K.sz_mul x (sinK i)
  have m4 := K.sz_mul y (cosK i)
  exact WTu_p1 x y z i (by simp only [Smk]; omega) (by simp only [Smk]; omega) (by simp only [Smk]; omega) (by omega) (by omega) (by omega) (by omega) (by omega) (by omega)
theorem WFlip_K (x y z : K) (hx : x.sz ≤ 1000000) (hy : y.sz ≤ 1000000) (hz : z.sz ≤ 1000000) : PCall P 51 [vecC x y z] (vecC x (-y) z) :=
  WFl_p1 x y z (by simp only [Smk]; omega) (by simp only [Smk]; omega) (by simp only [Smk]; omega) (by simp only [Smk]; omega)
end Go.Fw
open Go
namespace Go.Fw
set_option maxRecDepth 100000

theorem WMv_p1 (x : K) (y : K) (z : K) (t : Int) (b : Bool) (h1 : (validM t) = true) (h2 : (b) = true) (s11_0 : x.sz ≤ 1000000) (s11_1 : y.sz ≤ 1000000) (s11_2 : z.sz ≤ 1000000) (s16_0 : x.sz ≤ 1000000) (s16_1 : (-y).sz ≤ 1000000) (s16_2 : z.sz ≤ 1000000) : PCall P (53 : FuncId) [vecC x y z, CV.agg [ci64 t, CV.lit (Value.bool b)]] (CV.agg [CV.lit (Value.bool (decide ((x * cosK t - -y * sinK t).c0 < (0 : Int)))), CV.lit (Value.string (bytesOf (x * cosK t - -y * sinK t).c0.natAbs)), CV.lit (Value.bool (decide ((x * cosK t - -y * sinK t).c1 < (0 : Int)))), CV.lit (Value.string (bytesOf (x * cosK t - -y * sinK t).c1.natAbs)), CV.lit (Value.bool (decide ((x * cosK t - -y * sinK t).c2 < (0 : Int)))), CV.lit (Value.string (bytesOf (x * cosK t - -y * sinK t).c2.natAbs)), CV.lit (Value.bool (decide ((x * cosK t - -y * sinK t).c3 < (0 : Int)))), CV.lit (Value.string (bytesOf (x * cosK t - -y * sinK t).c3.natAbs)), CV.lit (Value.bool (decide ((x * cosK t - -y * sinK t).d < (0 : Int)))), CV.lit (Value.string (bytesOf (x * cosK t - -y * sinK t).d.natAbs)), CV.lit (Value.bool (decide ((x * sinK t + -y * cosK t).c0 < (0 : Int)))), CV.lit (Value.string (bytesOf (x * sinK t + -y * cosK t).c0.natAbs)), CV.lit (Value.bool (decide ((x * sinK t + -y * cosK t).c1 < (0 : Int)))), CV.lit (Value.string (bytesOf (x * sinK t + -y * cosK t).c1.natAbs)), CV.lit (Value.bool (decide ((x * sinK t + -y * cosK t).c2 < (0 : Int)))), CV.lit (Value.string (bytesOf (x * sinK t + -y * cosK t).c2.natAbs)), CV.lit (Value.bool (decide ((x * sinK t + -y * cosK t).c3 < (0 : Int)))), CV.lit (Value.string (bytesOf (x * sinK t + -y * cosK t).c3.natAbs)), CV.lit (Value.bool (decide ((x * sinK t + -y * cosK t).d < (0 : Int)))), CV.lit (Value.string (bytesOf (x * sinK t + -y * cosK t).d.natAbs)), CV.lit (Value.bool (decide (z.c0 < (0 : Int)))), CV.lit (Value.string (bytesOf z.c0.natAbs)), CV.lit (Value.bool (decide (z.c1 < (0 : Int)))), CV.lit (Value.string (bytesOf z.c1.natAbs)), CV.lit (Value.bool (decide (z.c2 < (0 : Int)))), CV.lit (Value.string (bytesOf z.c2.natAbs)), CV.lit (Value.bool (decide (z.c3 < (0 : Int)))), CV.lit (Value.string (bytesOf z.c3.natAbs)), CV.lit (Value.bool (decide (z.d < (0 : Int)))), CV.lit (Value.string (bytesOf z.d.natAbs))]) :=
  pcallR (ors := [(4, Or.r (CV.lit (Value.bool true))), (9, Or.b true), (11, Or.r (CV.agg [CV.lit (Value.bool (decide (x.c0 < (0 : Int)))), CV.lit (Value.string (bytesOf x.c0.natAbs)), CV.lit (Value.bool (decide (x.c1 < (0 : Int)))), CV.lit (Value.string (bytesOf x.c1.natAbs)), CV.lit (Value.bool (decide (x.c2 < (0 : Int)))), CV.lit (Value.string (bytesOf x.c2.natAbs)), CV.lit (Value.bool (decide (x.c3 < (0 : Int)))), CV.lit (Value.string (bytesOf x.c3.natAbs)), CV.lit (Value.bool (decide (x.d < (0 : Int)))), CV.lit (Value.string (bytesOf x.d.natAbs)), CV.lit (Value.bool (decide ((-y).c0 < (0 : Int)))), CV.lit (Value.string (bytesOf (-y).c0.natAbs)), CV.lit (Value.bool (decide ((-y).c1 < (0 : Int)))), CV.lit (Value.string (bytesOf (-y).c1.natAbs)), CV.lit (Value.bool (decide ((-y).c2 < (0 : Int)))), CV.lit (Value.string (bytesOf (-y).c2.natAbs)), CV.lit (Value.bool (decide ((-y).c3 < (0 : Int)))), CV.lit (Value.string (bytesOf (-y).c3.natAbs)), CV.lit (Value.bool (decide ((-y).d < (0 : Int)))), CV.lit (Value.string (bytesOf (-y).d.natAbs)), CV.lit (Value.bool (decide (z.c0 < (0 : Int)))), CV.lit (Value.string (bytesOf z.c0.natAbs)), CV.lit (Value.bool (decide (z.c1 < (0 : Int)))), CV.lit (Value.string (bytesOf z.c1.natAbs)), CV.lit (Value.bool (decide (z.c2 < (0 : Int)))), CV.lit (Value.string (bytesOf z.c2.natAbs)), CV.lit (Value.bool (decide (z.c3 < (0 : Int)))), CV.lit (Value.string (bytesOf z.c3.natAbs)), CV.lit (Value.bool (decide (z.d < (0 : Int)))), CV.lit (Value.string (bytesOf z.d.natAbs))])), (16, Or.r (CV.agg [CV.lit (Value.bool (decide ((x * cosK t - -y * sinK t).c0 < (0 : Int)))), CV.lit (Value.string (bytesOf (x * cosK t - -y * sinK t).c0.natAbs)), CV.lit (Value.bool (decide ((x * cosK t - -y * sinK t).c1 < (0 : Int)))), CV.lit (Value.string (bytesOf (x * cosK t - -y * sinK t).c1.natAbs)), CV.lit (Value.bool (decide ((x * cosK t - -y * sinK t).c2 < (0 : Int)))), CV.lit (Value.string (bytesOf (x * cosK t - -y * sinK t).c2.natAbs)), CV.lit (Value.bool (decide ((x * cosK t - -y * sinK t).c3 < (0 : Int)))), CV.lit (Value.string (bytesOf (x * cosK t - -y * sinK t).c3.natAbs)), CV.lit (Value.bool (decide ((x * cosK t - -y * sinK t).d < (0 : Int)))), CV.lit (Value.string (bytesOf (x * cosK t - -y * sinK t).d.natAbs)), CV.lit (Value.bool (decide ((x * sinK t + -y * cosK t).c0 < (0 : Int)))), CV.lit (Value.string (bytesOf (x * sinK t + -y * cosK t).c0.natAbs)), CV.lit (Value.bool (decide ((x * sinK t + -y * cosK t).c1 < (0 : Int)))), CV.lit (Value.string (bytesOf (x * sinK t + -y * cosK t).c1.natAbs)), CV.lit (Value.bool (decide ((x * sinK t + -y * cosK t).c2 < (0 : Int)))), CV.lit (Value.string (bytesOf (x * sinK t + -y * cosK t).c2.natAbs)), CV.lit (Value.bool (decide ((x * sinK t + -y * cosK t).c3 < (0 : Int)))), CV.lit (Value.string (bytesOf (x * sinK t + -y * cosK t).c3.natAbs)), CV.lit (Value.bool (decide ((x * sinK t + -y * cosK t).d < (0 : Int)))), CV.lit (Value.string (bytesOf (x * sinK t + -y * cosK t).d.natAbs)), CV.lit (Value.bool (decide (z.c0 < (0 : Int)))), CV.lit (Value.string (bytesOf z.c0.natAbs)), CV.lit (Value.bool (decide (z.c1 < (0 : Int)))), CV.lit (Value.string (bytesOf z.c1.natAbs)), CV.lit (Value.bool (decide (z.c2 < (0 : Int)))), CV.lit (Value.string (bytesOf z.c2.natAbs)), CV.lit (Value.bool (decide (z.c3 < (0 : Int)))), CV.lit (Value.string (bytesOf z.c3.natAbs)), CV.lit (Value.bool (decide (z.d < (0 : Int)))), CV.lit (Value.string (bytesOf z.d.natAbs))]))]) (by kernel_rfl) (.cons ((Go.Fw.WValid_spec (t) (b)).eqB h1) (.cons h2 (.cons (Go.Fw.WFlip_K (x) (y) (z) s11_0 s11_1 s11_2) (.cons (show 30 ≤ 30 from (by decide)) (.cons (Go.Fw.WTurn_K (x) (-y) (z) (t) s16_0 s16_1 s16_2) (.cons (show 30 ≤ 30 from (by decide)) .nil))))))
theorem WMv_p2 (x : K) (y : K) (z : K) (t : Int) (b : Bool) (h1 : (validM t) = true) (h2 : (b) = false) (s13_0 : x.sz ≤ 1000000) (s13_1 : y.sz ≤ 1000000) (s13_2 : z.sz ≤ 1000000) : PCall P (53 : FuncId) [vecC x y z, CV.agg [ci64 t, CV.lit (Value.bool b)]] (CV.agg [CV.lit (Value.bool (decide ((x * cosK t - y * sinK t).c0 < (0 : Int)))), CV.lit (Value.string (bytesOf (x * cosK t - y * sinK t).c0.natAbs)), CV.lit (Value.bool (decide ((x * cosK t - y * sinK t).c1 < (0 : Int)))), CV.lit (Value.string (bytesOf (x * cosK t - y * sinK t).c1.natAbs)), CV.lit (Value.bool (decide ((x * cosK t - y * sinK t).c2 < (0 : Int)))), CV.lit (Value.string (bytesOf (x * cosK t - y * sinK t).c2.natAbs)), CV.lit (Value.bool (decide ((x * cosK t - y * sinK t).c3 < (0 : Int)))), CV.lit (Value.string (bytesOf (x * cosK t - y * sinK t).c3.natAbs)), CV.lit (Value.bool (decide ((x * cosK t - y * sinK t).d < (0 : Int)))), CV.lit (Value.string (bytesOf (x * cosK t - y * sinK t).d.natAbs)), CV.lit (Value.bool (decide ((x * sinK t + y * cosK t).c0 < (0 : Int)))), CV.lit (Value.string (bytesOf (x * sinK t + y * cosK t).c0.natAbs)), CV.lit (Value.bool (decide ((x * sinK t + y * cosK t).c1 < (0 : Int)))), CV.lit (Value.string (bytesOf (x * sinK t + y * cosK t).c1.natAbs)), CV.lit (Value.bool (decide ((x * sinK t + y * cosK t).c2 < (0 : Int)))), CV.lit (Value.string (bytesOf (x * sinK t + y * cosK t).c2.natAbs)), CV.lit (Value.bool (decide ((x * sinK t + y * cosK t).c3 < (0 : Int)))), CV.lit (Value.string (bytesOf (x * sinK t + y * cosK t).c3.natAbs)), CV.lit (Value.bool (decide ((x * sinK t + y * cosK t).d < (0 : Int)))), CV.lit (Value.string (bytesOf (x * sinK t + y * cosK t).d.natAbs)), CV.lit (Value.bool (decide (z.c0 < (0 : Int)))), CV.lit (Value.string (bytesOf z.c0.natAbs)), CV.lit (Value.bool (decide (z.c1 < (0 : Int)))), CV.lit (Value.string (bytesOf z.c1.natAbs)), CV.lit (Value.bool (decide (z.c2 < (0 : Int)))), CV.lit (Value.string (bytesOf z.c2.natAbs)), CV.lit (Value.bool (decide (z.c3 < (0 : Int)))), CV.lit (Value.string (bytesOf z.c3.natAbs)), CV.lit (Value.bool (decide (z.d < (0 : Int)))), CV.lit (Value.string (bytesOf z.d.natAbs))]) :=
  pcallR (ors := [(4, Or.r (CV.lit (Value.bool true))), (9, Or.b false), (13, Or.r (CV.agg [CV.lit (Value.bool (decide ((x * cosK t - y * sinK t).c0 < (0 : Int)))), CV.lit (Value.string (bytesOf (x * cosK t - y * sinK t).c0.natAbs)), CV.lit (Value.bool (decide ((x * cosK t - y * sinK t).c1 < (0 : Int)))), CV.lit (Value.string (bytesOf (x * cosK t - y * sinK t).c1.natAbs)), CV.lit (Value.bool (decide ((x * cosK t - y * sinK t).c2 < (0 : Int)))), CV.lit (Value.string (bytesOf (x * cosK t - y * sinK t).c2.natAbs)), CV.lit (Value.bool (decide ((x * cosK t - y * sinK t).c3 < (0 : Int)))), CV.lit (Value.string (bytesOf (x * cosK t - y * sinK t).c3.natAbs)), CV.lit (Value.bool (decide ((x * cosK t - y * sinK t).d < (0 : Int)))), CV.lit (Value.string (bytesOf (x * cosK t - y * sinK t).d.natAbs)), CV.lit (Value.bool (decide ((x * sinK t + y * cosK t).c0 < (0 : Int)))), CV.lit (Value.string (bytesOf (x * sinK t + y * cosK t).c0.natAbs)), CV.lit (Value.bool (decide ((x * sinK t + y * cosK t).c1 < (0 : Int)))), CV.lit (Value.string (bytesOf (x * sinK t + y * cosK t).c1.natAbs)), CV.lit (Value.bool (decide ((x * sinK t + y * cosK t).c2 < (0 : Int)))), CV.lit (Value.string (bytesOf (x * sinK t + y * cosK t).c2.natAbs)), CV.lit (Value.bool (decide ((x * sinK t + y * cosK t).c3 < (0 : Int)))), CV.lit (Value.string (bytesOf (x * sinK t + y * cosK t).c3.natAbs)), CV.lit (Value.bool (decide ((x * sinK t + y * cosK t).d < (0 : Int)))), CV.lit (Value.string (bytesOf (x * sinK t + y * cosK t).d.natAbs)), CV.lit (Value.bool (decide (z.c0 < (0 : Int)))), CV.lit (Value.string (bytesOf z.c0.natAbs)), CV.lit (Value.bool (decide (z.c1 < (0 : Int)))), CV.lit (Value.string (bytesOf z.c1.natAbs)), CV.lit (Value.bool (decide (z.c2 < (0 : Int)))), CV.lit (Value.string (bytesOf z.c2.natAbs)), CV.lit (Value.bool (decide (z.c3 < (0 : Int)))), CV.lit (Value.string (bytesOf z.c3.natAbs)), CV.lit (Value.bool (decide (z.d < (0 : Int)))), CV.lit (Value.string (bytesOf z.d.natAbs))]))]) (by kernel_rfl) (.cons ((Go.Fw.WValid_spec (t) (b)).eqB h1) (.cons h2 (.cons (Go.Fw.WTurn_K (x) (y) (z) (t) s13_0 s13_1 s13_2) (.cons (show 30 ≤ 30 from (by decide)) .nil))))
theorem WMv_p3 (x : K) (y : K) (z : K) (t : Int) (b : Bool) (h1 : (validM t) = false) : PCall P (53 : FuncId) [vecC x y z, CV.agg [ci64 t, CV.lit (Value.bool b)]] (CV.agg [CV.lit (Value.bool false), CV.lit (Value.string { data := #[] }), CV.lit (Value.bool false), CV.lit (Value.string { data := #[] }), CV.lit (Value.bool false), CV.lit (Value.string { data := #[] }), CV.lit (Value.bool false), CV.lit (Value.string { data := #[] }), CV.lit (Value.bool false), CV.lit (Value.string { data := #[] }), CV.lit (Value.bool false), CV.lit (Value.string { data := #[] }), CV.lit (Value.bool false), CV.lit (Value.string { data := #[] }), CV.lit (Value.bool false), CV.lit (Value.string { data := #[] }), CV.lit (Value.bool false), CV.lit (Value.string { data := #[] }), CV.lit (Value.bool false), CV.lit (Value.string { data := #[] }), CV.lit (Value.bool false), CV.lit (Value.string { data := #[] }), CV.lit (Value.bool false), CV.lit (Value.string { data := #[] }), CV.lit (Value.bool false), CV.lit (Value.string { data := #[] }), CV.lit (Value.bool false), CV.lit (Value.string { data := #[] }), CV.lit (Value.bool false), CV.lit (Value.string { data := #[] })]) :=
  pcallR (ors := [(4, Or.r (CV.lit (Value.bool false)))]) (by kernel_rfl) (.cons ((Go.Fw.WValid_spec (t) (b)).eqB h1) (.cons (show 30 ≤ 30 from (by decide)) .nil))
end Go.Fw
open Go
namespace Go.Fw
set_option maxRecDepth 100000
/-- A vector that is moved. -/
def mvX (x y : K) (t : Int) (b : Bool) : K := x * cosK t - (if b then -y else y) * sinK t
def mvY (x y : K) (t : Int) (b : Bool) : K := x * sinK t + (if b then -y else y) * cosK t
def zeroNum : List CV := [.lit (.bool false), cstr ⟨#[]⟩, .lit (.bool false), cstr ⟨#[]⟩, .lit (.bool false), cstr ⟨#[]⟩, .lit (.bool false), cstr ⟨#[]⟩, .lit (.bool false), cstr ⟨#[]⟩]
/-- The vector of no numbers. -/
def zeroVec : CV := .agg (zeroNum ++ (zeroNum ++ zeroNum))
theorem WMove_K (x y z : K) (t : Int) (b : Bool) (ht : validM t = true) (hx : x.sz ≤ 1000000) (hy : y.sz ≤ 1000000) (hz : z.sz ≤ 1000000) :
    PCall P 53 [vecC x y z, .agg [ci64 t, .lit (.bool b)]] (vecC (mvX x y t b) (mvY x y t b) z) := by
  cases b with
  | true => exact WMv_p1 x y z t true ht rfl hx hy hz hx (by rw [K.sz_neg]; exact hy) hz
  | false => exact WMv_p2 x y z t false ht rfl hx hy hz
theorem WMove_bad (x y z : K) (t : Int) (b : Bool) (ht : validM t = false) : PCall P 53 [vecC x y z, .agg [ci64 t, .lit (.bool b)]] zeroVec := WMv_p3 x y z t b ht
theorem motT_spec (k : Int) (hk : (Lit.int .u8 k).wf = true) : PCall P 57 [.lit (.int .u8 k)] (.agg [ci64 (k % 24), .lit (.bool (decide (k ≥ 128)))]) := by
  simp only [Lit.wf, Bool.and_eq_true, decide_eq_true_eq] at hk
  have ei : IntKind.u8.min = 0 ∧ IntKind.u8.max = 255 := by decide
  rw [ei.1, ei.2] at hk
  refine (WMo_p1 k).eq ?_
  rw [w64 (by omega), Int.tmod_eq_emod_of_nonneg (by omega)]
theorem move_dir (p t : Int) (b : Bool) (ht : validM t = true) : mvX (cosK p) (sinK p) t b = cosK (idxM t b p) ∧ mvY (cosK p) (sinK p) t b = sinK (idxM t b p) := by
  have h := validM_iff.1 ht
  cases b with
  | false =>
    have e : idxM t false p % 24 = (p + t) % 24 := by simp only [idxM, ht, if_true, turned]; simp
    rw [cosK_cong e, sinK_cong e, cos_add, sin_add]
    refine ⟨rfl, ?_⟩
    simp only [mvY, Bool.false_eq_true, if_false]
    rw [K.add_comm]
  | true =>
    have e : idxM t true p % 24 = (-p + t) % 24 := by simp only [idxM, ht, if_true, turned]; omega
    rw [cosK_cong e, sinK_cong e, cos_add, sin_add, cos_neg, sin_neg]
    refine ⟨rfl, ?_⟩
    simp only [mvY, if_true]
    rw [K.add_comm]
end Go.Fw
open Go
namespace Go.Fw
set_option maxRecDepth 100000
def num0L : List CV := [.lit (.bool false), cstr (bytesOf 0), .lit (.bool false), cstr (bytesOf 0), .lit (.bool false), cstr (bytesOf 0), .lit (.bool false), cstr (bytesOf 0), .lit (.bool false), cstr (bytesOf 1)]
/-- The direction of a position. -/
def dirC (p : Int) : CV := .agg (numL (cosK p) ++ (numL (sinK p) ++ num0L))
theorem WMove_dir (p t : Int) (b : Bool) (ht : validM t = true) : PCall P 53 [dirC p, .agg [ci64 t, .lit (.bool b)]] (dirC (idxM t b p)) := by
  have c := sz_cos p
  have s := sz_sin p
  have := WMove_K (cosK p) (sinK p) (K.ofInt 0) t b ht (by omega) (by omega) (Nat.le_trans (sz_small (x := K.ofInt 0) (by decide)) (by decide))
  rw [(move_dir p t b ht).1, (move_dir p t b ht).2] at this
  exact this
theorem valid_mod (k : Int) : validM (k % 24) = true := validM_iff.2 (by omega)
end Go.Fw
open Go
namespace Go.Fw
set_option maxRecDepth 100000
/-- The positions of an orbit. -/
def oxs (o : Int) (b : Bool) (i : Int) : List Nat := outN (orbT o b i) 0 24
theorem mem_outN (t : Nat → Bool) : ∀ (d p x : Nat), x ∈ outN t p d ↔ p ≤ x ∧ x < p + d ∧ t x = true
  | 0, p, x => by simp [outN]; omega
  | d + 1, p, x => by
    unfold outN
    rw [List.mem_append, mem_outN t d (p + 1) x]
    constructor
    · rintro (h | ⟨h1, h2, h3⟩)
      · split at h
        · rename_i ht
          simp only [List.mem_singleton] at h; subst h
          exact ⟨Nat.le_refl _, by omega, ht⟩
        · simp at h
      · exact ⟨by omega, by omega, h3⟩
    · rintro ⟨h1, h2, h3⟩
      by_cases e : x = p
      · subst e; rw [if_pos h3]; exact .inl (by simp)
      · exact .inr ⟨by omega, by omega, h3⟩
theorem foldl_mark (i : Int) : ∀ (l : List (Int × Bool)) (t : Nat → Bool) (x : Nat), l.foldl (mark i) t x = true ↔ t x = true ∨ ∃ m ∈ l, (idxM m.1 m.2 i).toNat = x
  | [], t, x => by simp
  | m :: l, t, x => by
    rw [List.foldl_cons, foldl_mark i l]
    simp only [mark, Bool.or_eq_true, beq_iff_eq, List.mem_cons, exists_eq_or_imp]
    constructor
    · rintro ((h | h) | h)
      · exact .inr (.inl h)
      · exact .inl h
      · exact .inr (.inr h)
    · rintro (h | h | h)
      · exact .inl (.inr h)
      · exact .inl (.inl h)
      · exact .inr h
theorem mem_motQ (o : Int) (f : Bool) : ∀ (k : Nat) (m : Int × Bool), m ∈ motQ o f k ↔ ∃ j : Nat, j < k ∧ m = ((j : Int) * (24 / o), f)
  | 0, m => by simp [motQ]
  | k + 1, m => by
    unfold motQ
    rw [List.mem_append, mem_motQ o f k m, List.mem_singleton]
    constructor
    · rintro (⟨j, h1, h2⟩ | h)
      · exact ⟨j, by omega, h2⟩
      · exact ⟨k, by omega, h⟩
    · rintro ⟨j, h1, h2⟩
      by_cases e : j = k
      · subst e; exact .inr h2
      · exact .inl ⟨j, by omega, h2⟩
theorem mem_motP (o : Int) (b : Bool) (m : Int × Bool) : m ∈ motP o b ↔ ∃ j : Nat, j < o.toNat ∧ (m = ((j : Int) * (24 / o), false) ∨ b = true ∧ m = ((j : Int) * (24 / o), true)) := by
  unfold motP
  rw [List.mem_append, mem_motQ]
  cases b with
  | true =>
    simp only [if_true, mem_motQ]
    constructor
    · rintro (⟨j, h1, h2⟩ | ⟨j, h1, h2⟩)
      · exact ⟨j, h1, .inl h2⟩
      · exact ⟨j, h1, .inr ⟨trivial, h2⟩⟩
    · rintro ⟨j, h1, h2 | ⟨_, h2⟩⟩
      · exact .inl ⟨j, h1, h2⟩
      · exact .inr ⟨j, h1, h2⟩
  | false => simp
theorem idxM_f (t i : Int) (h : 0 ≤ t ∧ t < 24) : idxM t false i = (i + t) % 24 := by
  unfold idxM; rw [if_pos (validM_iff.2 h)]; simp only [turned, Bool.false_eq_true, if_false]; omega
theorem idxM_t (t i : Int) (h : 0 ≤ t ∧ t < 24) : idxM t true i = (t - i) % 24 := by
  unfold idxM; rw [if_pos (validM_iff.2 h)]; simp only [turned, if_true]; omega
theorem stepO {o : Int} (ho : okO o) (j : Nat) (hj : j < o.toNat) : 0 ≤ (j : Int) * (24 / o) ∧ (j : Int) * (24 / o) < 24 := by
  rcases okO_cases ho with rfl | rfl | rfl | rfl | rfl | rfl | rfl | rfl <;> omega
/-- A position lies in an orbit. -/
theorem orbT_iff {o : Int} (ho : okO o) (b : Bool) (i : Int) (x : Nat) : orbT o b i x = true ↔ x < 24 ∧ (((x : Int) - i) % (24 / o) = 0 ∨ b = true ∧ ((x : Int) + i) % (24 / o) = 0) := by
  unfold orbT
  rw [foldl_mark]
  simp only [Bool.false_eq_true, false_or]
  constructor
  · rintro ⟨m, hm, rfl⟩
    obtain ⟨hb1, hb2⟩ := idxM_bd m.1 m.2 i
    refine ⟨by omega, ?_⟩
    obtain ⟨j, hj, rfl | ⟨hb, rfl⟩⟩ := (mem_motP o b m).1 hm
    · left
      have h := stepO ho j hj
      simp only [idxM_f _ _ h] at hb1 hb2 ⊢
      rcases okO_cases ho with rfl | rfl | rfl | rfl | rfl | rfl | rfl | rfl <;> omega
    · right
      refine ⟨hb, ?_⟩
      have h := stepO ho j hj
      simp only [idxM_t _ _ h] at hb1 hb2 ⊢
      rcases okO_cases ho with rfl | rfl | rfl | rfl | rfl | rfl | rfl | rfl <;> omega
  · rintro ⟨hx, h⟩
    have key : ∀ u : Int, u % (24 / o) = 0 → ∃ j : Nat, j < o.toNat ∧ (j : Int) * (24 / o) = u % 24 := by
      intro u hu
      refine ⟨(u % 24 / (24 / o)).toNat, ?_, ?_⟩ <;> rcases okO_cases ho with rfl | rfl | rfl | rfl | rfl | rfl | rfl | rfl <;> omega
    rcases h with h | ⟨hb, h⟩
    · obtain ⟨j, hj, e⟩ := key _ h
      refine ⟨_, (mem_motP o b _).2 ⟨j, hj, .inl rfl⟩, ?_⟩
      have q := idxM_f _ i (stepO ho j hj)
      show (idxM ((j : Int) * (24 / o)) false i).toNat = x
      rw [q, e]; omega
    · obtain ⟨j, hj, e⟩ := key _ h
      refine ⟨_, (mem_motP o b _).2 ⟨j, hj, .inr ⟨hb, rfl⟩⟩, ?_⟩
      have q := idxM_t _ i (stepO ho j hj)
      show (idxM ((j : Int) * (24 / o)) true i).toNat = x
      rw [q, e]; omega
end Go.Fw
open Go
namespace Go.Fw
set_option maxRecDepth 100000
theorem orbT_mod {o : Int} (ho : okO o) (b : Bool) (i : Int) : orbT o b i = orbT o b (i % 24) := by
  funext x
  rw [Bool.eq_iff_iff, orbT_iff ho, orbT_iff ho]
  refine and_congr Iff.rfl (or_congr ?_ (and_congr Iff.rfl ?_)) <;> rcases okO_cases ho with rfl | rfl | rfl | rfl | rfl | rfl | rfl | rfl <;> omega
def oMem : List Int := [1, 2, 3, 4, 6, 8, 12, 24]
theorem okO_mem {o : Int} (ho : okO o) : o ∈ oMem := by
  rcases okO_cases ho with rfl | rfl | rfl | rfl | rfl | rfl | rfl | rfl <;> decide
theorem oxs_fin : ∀ i : _root_.Fin 24, ∀ b : Bool, ∀ o ∈ oMem, (oxs o b i.val).length ≠ 0 ∧ cntM o b % (oxs o b i.val).length = 0 := by decide +kernel
theorem oxs_dvd {o : Int} (ho : okO o) (b : Bool) (i : Int) : (oxs o b i).length ≠ 0 ∧ cntM o b % (oxs o b i).length = 0 ∧ (oxs o b i).length ≤ 24 := by
  obtain ⟨a, ha⟩ := ex24 i
  have e : oxs o b i = oxs o b a.val := by unfold oxs; rw [orbT_mod ho, ha]
  have := oxs_fin a b o (okO_mem ho)
  rw [e]
  exact ⟨this.1, this.2, outN_length _ _ _⟩
theorem WOrb_l (i o : Int) (b : Bool) (ho : okO o) : PCall P 28 [ci64 i, ci64 o, .lit (.bool b)] (.tup [.lst (oxs o b i).length (i64s (oxs o b i)), ci64 0]) := by
  have h := WOrb_ok i o b ho
  have hne := (oxs_dvd ho b i).1
  rw [outFrom_i64s] at h
  have e : ∀ xs : List Nat, xs.length ≠ 0 → outV (i64s xs) = .lst xs.length (i64s xs) := by
    intro xs hx
    cases xs with
    | nil => simp at hx
    | cons x xs => simp [i64s, outV]
  have h' : PCall P 28 [ci64 i, ci64 o, .lit (.bool b)] (.tup [outV (i64s (oxs o b i)), ci64 0]) := h
  rw [e _ hne] at h'
  exact h'
theorem WMot_l (o : Int) (b : Bool) (ho : okO o) : PCall P 26 [ci64 o, .lit (.bool b)] (.tup [.lst (motP o b).length (flatM (motP o b)), ci64 0]) := by
  have h := WMot_ok o b ho
  unfold motsV at h
  rwa [cellsM_flat, cntM_length] at h
/-- The positions stand in their order. -/
theorem oxs_get (t : Nat → Bool) : ∀ (d p j : Nat), j < (outN t p d).length → p ≤ (outN t p d).getD j 0 ∧ (outN t p d).getD j 0 < p + d ∧ t ((outN t p d).getD j 0) = true ∧ (0 < j → (outN t p d).getD (j - 1) 0 < (outN t p d).getD j 0)
  | 0, p, j, h => by simp [outN] at h
  | d + 1, p, j, h => by
    unfold outN at h ⊢
    by_cases ht : t p = true
    · simp only [if_pos ht, List.singleton_append] at h ⊢
      cases j with
      | zero => simp only [List.getD_cons_zero]; exact ⟨Nat.le_refl _, by omega, ht, by omega⟩
      | succ j =>
        simp only [List.length_cons, Nat.add_lt_add_iff_right] at h
        obtain ⟨h1, h2, h3, h4⟩ := oxs_get t d (p + 1) j h
        simp only [List.getD_cons_succ, Nat.add_sub_cancel]
        refine ⟨by omega, by omega, h3, fun _ => ?_⟩
        cases j with
        | zero => simp only [List.getD_cons_zero]; omega
        | succ j => simp only [List.getD_cons_succ]; exact h4 (by omega)
    · simp only [if_neg ht, List.nil_append] at h ⊢
      obtain ⟨h1, h2, h3, h4⟩ := oxs_get t d (p + 1) j h
      exact ⟨by omega, by omega, h3, h4⟩
/-- An orbit is mapped to itself. -/
theorem orb_closed {o : Int} (ho : okO o) (b : Bool) (i : Int) {x : Nat} (hx : orbT o b i x = true) {m : Int × Bool} (hm : m ∈ motP o b) : orbT o b i (idxM m.1 m.2 x).toNat = true := by
  obtain ⟨h1, h2⟩ := (orbT_iff ho b i x).1 hx
  obtain ⟨hb1, hb2⟩ := idxM_bd m.1 m.2 x
  refine (orbT_iff ho b i _).2 ⟨by omega, ?_⟩
  obtain ⟨j, hj, rfl | ⟨hb, rfl⟩⟩ := (mem_motP o b m).1 hm
  · have h := stepO ho j hj
    simp only [idxM_f _ _ h] at hb1 hb2 ⊢
    rcases h2 with h2 | ⟨h3, h2⟩
    · left; rcases okO_cases ho with rfl | rfl | rfl | rfl | rfl | rfl | rfl | rfl <;> omega
    · right; refine ⟨h3, ?_⟩; rcases okO_cases ho with rfl | rfl | rfl | rfl | rfl | rfl | rfl | rfl <;> omega
  · have h := stepO ho j hj
    simp only [idxM_t _ _ h] at hb1 hb2 ⊢
    rcases h2 with h2 | ⟨h3, h2⟩
    · right; refine ⟨hb, ?_⟩; rcases okO_cases ho with rfl | rfl | rfl | rfl | rfl | rfl | rfl | rfl <;> omega
    · left; rcases okO_cases ho with rfl | rfl | rfl | rfl | rfl | rfl | rfl | rfl <;> omega
theorem orb_self {o : Int} (ho : okO o) (b : Bool) (i : Int) : orbT o b i (i % 24).toNat = true :=
  (orbT_iff ho b i _).2 ⟨by omega, .inl (by rcases okO_cases ho with rfl | rfl | rfl | rfl | rfl | rfl | rfl | rfl <;> omega)⟩
end Go.Fw
