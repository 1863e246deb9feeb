/- A part of the proof that the law returns true for every input: an executor for the model's code, and what functions of the program compute. -/
import Derived.Test.YtcafjpldfnegiaaGreatDoorB11
import Derived.Test.YtcafjpldfnegiaaGreatDoorB15
import Derived.Test.YtcafjpldfnegiaaGreatDoorB40
import Derived.Test.YtcafjpldfnegiaaGreatDoorB41
import Derived.KernelRfl
open Go IntKind
namespace Go.Fw
set_option maxRecDepth 100000
theorem rkm_p1 (x y : K) (g1 : sm3B x = false) (s4_0 : x.sz ≤ 1000000) (s8_0 : y.sz ≤ 1000000) (s26_0 : ∃ n, n ≤ 500000000 ∧ By4 n x.c0 x.c1 x.c2 x.c3 ∧ By4 n y.c0 y.c1 y.c2 y.c3) (s31_0 : Sml x.d.natAbs) (s31_1 : Sml y.d.natAbs) (s31_2 : Sml (x.d.natAbs * y.d.natAbs)) (s32_0 : x.d * y.d ≠ 0) (s32_1 : SmlZ (x.c0 * y.c0 + 2 * x.c1 * y.c1 + 3 * x.c2 * y.c2 + 6 * x.c3 * y.c3)) (s32_2 : SmlZ (x.c0 * y.c1 + x.c1 * y.c0 + 3 * x.c2 * y.c3 + 3 * x.c3 * y.c2)) (s32_3 : SmlZ (x.c0 * y.c2 + x.c2 * y.c0 + 2 * x.c1 * y.c3 + 2 * x.c3 * y.c1)) (s32_4 : SmlZ (x.c0 * y.c3 + x.c3 * y.c0 + x.c1 * y.c2 + x.c2 * y.c1)) (s32_5 : SmlZ (x.d * y.d)) : PCall P 38 [numC x, numC y] (numC (K.of (x.c0 * y.c0 + 2 * x.c1 * y.c1 + 3 * x.c2 * y.c2 + 6 * x.c3 * y.c3) (x.c0 * y.c1 + x.c1 * y.c0 + 3 * x.c2 * y.c3 + 3 * x.c3 * y.c2) (x.c0 * y.c2 + x.c2 * y.c0 + 2 * x.c1 * y.c3 + 2 * x.c3 * y.c1) (x.c0 * y.c3 + x.c3 * y.c0 + x.c1 * y.c2 + x.c2 * y.c1) (x.d * y.d))) :=
 pcallT (.r 4 (RVal_K (x) s4_0) (.r 8 (RVal_K (y) s8_0) (.r 13 (words_a (x)) (.c (lq 5 5) (.b 21 g1 (.r 26 (RTimes_n (x.c0) (x.c1) (x.c2) (x.c3) (y.c0) (y.c1) (y.c2) (y.c3) s26_0) (.r 31 (RMul_spec (x.d) (y.d) s31_0 s31_1 s31_2) (.r 32 (RRed_K (x.c0 * y.c0 + 2 * x.c1 * y.c1 + 3 * x.c2 * y.c2 + 6 * x.c3 * y.c3) (x.c0 * y.c1 + x.c1 * y.c0 + 3 * x.c2 * y.c3 + 3 * x.c3 * y.c2) (x.c0 * y.c2 + x.c2 * y.c0 + 2 * x.c1 * y.c3 + 2 * x.c3 * y.c1) (x.c0 * y.c3 + x.c3 * y.c0 + x.c1 * y.c2 + x.c2 * y.c1) (x.d * y.d) s32_0 s32_1 s32_2 s32_3 s32_4 s32_5) (.c (lq 10 10) .nil))))))))) (by kernel_rfl)
theorem rkl_p1 (x y : K) (g1 : sm3B x = true) (g2 : sm3B y = false) (s4_0 : x.sz ≤ 1000000) (s8_0 : y.sz ≤ 1000000) (s36_0 : ∃ n, n ≤ 500000000 ∧ By4 n x.c0 x.c1 x.c2 x.c3 ∧ By4 n y.c0 y.c1 y.c2 y.c3) (s41_0 : Sml x.d.natAbs) (s41_1 : Sml y.d.natAbs) (s41_2 : Sml (x.d.natAbs * y.d.natAbs)) (s42_0 : x.d * y.d ≠ 0) (s42_1 : SmlZ (x.c0 * y.c0 + 2 * x.c1 * y.c1 + 3 * x.c2 * y.c2 + 6 * x.c3 * y.c3)) (s42_2 : SmlZ (x.c0 * y.c1 + x.c1 * y.c0 + 3 * x.c2 * y.c3 + 3 * x.c3 * y.c2)) (s42_3 : SmlZ (x.c0 * y.c2 + x.c2 * y.c0 + 2 * x.c1 * y.c3 + 2 * x.c3 * y.c1)) (s42_4 : SmlZ (x.c0 * y.c3 + x.c3 * y.c0 + x.c1 * y.c2 + x.c2 * y.c1)) (s42_5 : SmlZ (x.d * y.d)) : PCall P 38 [numC x, numC y] (numC (K.of (x.c0 * y.c0 + 2 * x.c1 * y.c1 + 3 * x.c2 * y.c2 + 6 * x.c3 * y.c3) (x.c0 * y.c1 + x.c1 * y.c0 + 3 * x.c2 * y.c3 + 3 * x.c3 * y.c2) (x.c0 * y.c2 + x.c2 * y.c0 + 2 * x.c1 * y.c3 + 2 * x.c3 * y.c1) (x.c0 * y.c3 + x.c3 * y.c0 + x.c1 * y.c2 + x.c2 * y.c1) (x.d * y.d))) :=
 pcallT (.r 4 (RVal_K (x) s4_0) (.r 8 (RVal_K (y) s8_0) (.r 13 (words_a (x)) (.c (lq 5 5) (.b 21 g1 (.r 23 (words_a (y)) (.c (lq 5 5) (.b 31 g2 (.r 36 (RTimes_n (x.c0) (x.c1) (x.c2) (x.c3) (y.c0) (y.c1) (y.c2) (y.c3) s36_0) (.r 41 (RMul_spec (x.d) (y.d) s41_0 s41_1 s41_2) (.r 42 (RRed_K (x.c0 * y.c0 + 2 * x.c1 * y.c1 + 3 * x.c2 * y.c2 + 6 * x.c3 * y.c3) (x.c0 * y.c1 + x.c1 * y.c0 + 3 * x.c2 * y.c3 + 3 * x.c3 * y.c2) (x.c0 * y.c2 + x.c2 * y.c0 + 2 * x.c1 * y.c3 + 2 * x.c3 * y.c1) (x.c0 * y.c3 + x.c3 * y.c0 + x.c1 * y.c2 + x.c2 * y.c1) (x.d * y.d) s42_0 s42_1 s42_2 s42_3 s42_4 s42_5) (.c (lq 10 10) .nil)))))))))))) (by kernel_rfl)
end Go.Fw
open Go
namespace Go.Fw
set_option maxRecDepth 100000
theorem prod_sml {n : Nat} (hn : n + n + 1 < 1073741824) {a0 a1 a2 a3 b0 b1 b2 b3 : Int} (ha : By4 n a0 a1 a2 a3) (hb : By4 n b0 b1 b2 b3) :
    SmlZ (a0 * b0 + 2 * a1 * b1 + 3 * a2 * b2 + 6 * a3 * b3) ∧ SmlZ (a0 * b1 + a1 * b0 + 3 * a2 * b3 + 3 * a3 * b2) ∧ SmlZ (a0 * b2 + a2 * b0 + 2 * a1 * b3 + 2 * a3 * b1) ∧ SmlZ (a0 * b3 + a3 * b0 + a1 * b2 + a2 * b1) := by
 obtain ⟨x0, x1, x2, x3⟩ := ha
 obtain ⟨y0, y1, y2, y3⟩ := hb
 have c := fun (k a b : Int) => Int.mul_assoc k a b
 have key : ∀ {a b : Int}, By n a → By n b → (a * b).natAbs < 256 ^ (n + n) := fun ha hb => ha.mul hb
 obtain ⟨M, hM⟩ : ∃ M, M = 256 ^ (n + n) := ⟨_, rfl⟩
 have fin : ∀ z : Int, z.natAbs < 256 * M → SmlZ z := fun z hz => Sml.of_lt (k := n + n + 1) (by rw [Nat.pow_succ, ← hM, Nat.mul_comm]; exact hz) hn
 refine ⟨fin _ ?_, fin _ ?_, fin _ ?_, fin _ ?_⟩
 · have h1 := key x0 y0; have h2 := key x1 y1; have h3 := key x2 y2; have h4 := key x3 y3
   rw [← hM] at h1 h2 h3 h4
   rw [c, c, c]; omega
 · have h1 := key x0 y1; have h2 := key x1 y0; have h3 := key x2 y3; have h4 := key x3 y2
   rw [← hM] at h1 h2 h3 h4
   rw [c, c]; omega
 · have h1 := key x0 y2; have h2 := key x2 y0; have h3 := key x1 y3; have h4 := key x3 y1
   rw [← hM] at h1 h2 h3 h4
   rw [c, c]; omega
 · have h1 := key x0 y3; have h2 := key x3 y0; have h3 := key x1 y2; have h4 := key x2 y1
   rw [← hM] at h1 h2 h3 h4
   omega
theorem RMul_K (x y : K) (hx : x.sz ≤ 1000000) (hy : y.sz ≤ 1000000) : PCall P 38 [numC x, numC y] (numC (x * y)) := by
 have hxs := hx
 have hys := hy
 obtain ⟨x0, x1, x2, x3, xd⟩ := By.of_sz hx
 obtain ⟨y0, y1, y2, y3, yd⟩ := By.of_sz hy
 have L : (1000000 : Nat) < 1073741824 := by decide
 have L2 : (1000000 : Nat) + 1000000 < 1073741824 := by decide
 have hb : By4 1000000 x.c0 x.c1 x.c2 x.c3 := ⟨x0, x1, x2, x3⟩
 have hb' : By4 1000000 y.c0 y.c1 y.c2 y.c3 := ⟨y0, y1, y2, y3⟩
 obtain ⟨s0, s1, s2, s3⟩ := prod_sml (by decide) hb hb'
 have hex : ∃ n, n ≤ 500000000 ∧ By4 n x.c0 x.c1 x.c2 x.c3 ∧ By4 n y.c0 y.c1 y.c2 y.c3 := ⟨1000000, by decide, hb, hb'⟩
 have dn : x.d * y.d ≠ 0 := Int.mul_ne_zero x.d_ne y.d_ne
 cases h1 : sm3B x
 · exact rkm_p1 x y h1 hxs hys hex (xd.sml L) (yd.sml L) (xd.sm2 yd L2) dn s0 s1 s2 s3 ((xd.mul yd).sml L2)
 · cases h2 : sm3B y
   · exact rkl_p1 x y h1 h2 hxs hys hex (xd.sml L) (yd.sml L) (xd.sm2 yd L2) dn s0 s1 s2 s3 ((xd.mul yd).sml L2)
   · exact RMul_s x y (sm3B_true h1) (sm3B_true h2)
theorem RSub_K (x y : K) (hx : x.sz ≤ 1000000) (hy : y.sz ≤ 1000000) : PCall P 39 [numC x, numC y] (numC (x - y)) := rks_p1 x y hy hx (by rw [K.sz_neg]; exact hy)
end Go.Fw
open Go IntKind
namespace Go.Fw
set_option maxRecDepth 100000
theorem FSub_p1 (x y : K) (s5_0 : Smk y) (s6_0 : x.sz + (-y).sz + 2 < 1073741824) : PCall P 135 [numC x, numC y] (numC (x + -y)) :=
 pcallT (.r 5 (FNeg_K (y) s5_0) (.r 6 (FAdd_K (x) (-y) s6_0) (.c (lq 10 10) .nil))) (by kernel_rfl)
theorem WRi_p1 (x y z : K) (s4_0 : Smk x) (s8_0 : Smk y) (s13_0 : Smk z) : PCall P 134 [vecC x y z] (.lit (.bool true)) :=
 pcallT (.r 4 (FValid_K (x) s4_0) (.r 8 (FValid_K (y) s8_0) (.r 13 (FValid_K (z) s13_0) .nil))) (by kernel_rfl)
end Go.Fw
open Go
namespace Go.Fw
theorem FSub_K (x y : K) (h : x.sz + y.sz + 2 < 1073741824) : PCall P 135 [numC x, numC y] (numC (x - y)) := FSub_p1 x y (by simp only [Smk]; omega) (by rw [K.sz_neg]; exact h)
end Go.Fw
open Go IntKind
namespace Go.Fw
set_option maxRecDepth 100000
theorem WTu_p1 (x y z : K) (i : Int) (s3_0 : Smk x) (s3_1 : Smk y) (s3_2 : Smk z) (s17_0 : x.sz + (cosK i).sz + 2 < 1073741824) (s21_0 : y.sz + (sinK i).sz + 2 < 1073741824) (s22_0 : (x * cosK i).sz + (y * sinK i).sz + 2 < 1073741824) (s26_0 : x.sz + (sinK i).sz + 2 < 1073741824) (s30_0 : y.sz + (cosK i).sz + 2 < 1073741824) (s31_0 : (x * sinK i).sz + (y * cosK i).sz + 2 < 1073741824) : PCall P 49 [vecC x y z, ci64 i] (vecC (x * cosK i - y * sinK i) (x * sinK i + y * cosK i) z) :=
 pcallT (.r 3 (WRi_p1 (x) (y) (z) s3_0 s3_1 s3_2) (.r 7 (WCos_spec (i)) (.r 9 (WSin_spec (i)) (.c (lq 10 10) (.c (lq 10 10) (.r 17 (FMul_K (x) (cosK i) s17_0) (.r 21 (FMul_K (y) (sinK i) s21_0) (.r 22 (FSub_K (x * cosK i) (y * sinK i) s22_0) (.r 26 (FMul_K (x) (sinK i) s26_0) (.r 30 (FMul_K (y) (cosK i) s30_0) (.r 31 (FAdd_K (x * sinK i) (y * cosK i) s31_0) (.c (lq 30 30) .nil)))))))))))) (by kernel_rfl)
theorem WFl_p1 (x y z : K) (s3_0 : Smk x) (s3_1 : Smk y) (s3_2 : Smk z) (s8_0 : Smk y) : PCall P 51 [vecC x y z] (vecC x (-y) z) :=
 pcallT (.r 3 (WRi_p1 (x) (y) (z) s3_0 s3_1 s3_2) (.r 8 (FNeg_K (y) s8_0) (.c (lq 20 30) (.c (lq 30 30) .nil)))) (by kernel_rfl)
end Go.Fw
open Go
namespace Go.Fw
set_option maxRecDepth 100000
theorem sz_small {x : K} (h : sm3b x = true) : x.sz ≤ 1 := by
 simp only [sm3b, Bool.and_eq_true, decide_eq_true_eq] at h
 rw [K.sz_le]
 exact ⟨h.1.1.1.1, h.1.1.1.2, h.1.1.2, h.1.2, h.2⟩
theorem sz_cos (i : Int) : (cosK i).sz ≤ 1 := by
 obtain ⟨a, ha⟩ := ex24 i
 rw [cos_at ha]; exact sz_small (circ4 a).1
theorem sz_sin (i : Int) : (sinK i).sz ≤ 1 := by
 obtain ⟨a, ha⟩ := ex24 i
 rw [sin_at ha]; exact sz_small (circ4 a).2
theorem WTurn_K (x y z : K) (i : Int) (hx : x.sz ≤ 1000000) (hy : y.sz ≤ 1000000) (hz : z.sz ≤ 1000000) :
    PCall P 49 [vecC x y z, ci64 i] (vecC (x * cosK i - y * sinK i) (x * sinK i + y * cosK i) z) := by
 have c := sz_cos i
 have s := sz_sin i
 have m1 := K.sz_mul x (cosK i)
 have m2 := K.sz_mul y (sinK i)
 have m3 := K.sz_mul x (sinK i)
 have m4 := K.sz_mul y (cosK i)
 exact WTu_p1 x y z i (by simp only [Smk]; omega) (by simp only [Smk]; omega) (by simp only [Smk]; omega) (by omega) (by omega) (by omega) (by omega) (by omega) (by omega)
theorem WFlip_K (x y z : K) (hx : x.sz ≤ 1000000) (hy : y.sz ≤ 1000000) (hz : z.sz ≤ 1000000) : PCall P 51 [vecC x y z] (vecC x (-y) z) :=
 WFl_p1 x y z (by simp only [Smk]; omega) (by simp only [Smk]; omega) (by simp only [Smk]; omega) (by simp only [Smk]; omega)
end Go.Fw
open Go IntKind
namespace Go.Fw
set_option maxRecDepth 100000
theorem WMv_p1 (x y z : K) (t : Int) (b : Bool) (h1 : (validM t) = true) (h2 : (b) = true) (s11_0 : x.sz ≤ 1000000) (s11_1 : y.sz ≤ 1000000) (s11_2 : z.sz ≤ 1000000) (s16_0 : x.sz ≤ 1000000) (s16_1 : (-y).sz ≤ 1000000) (s16_2 : z.sz ≤ 1000000) : PCall P 53 [vecC x y z, .agg [ci64 t, .lit (.bool b)]] (.agg [.lit (.bool (decide ((x * cosK t - -y * sinK t).c0 < 0))), .lit (.string (bytesOf (x * cosK t - -y * sinK t).c0.natAbs)), .lit (.bool (decide ((x * cosK t - -y * sinK t).c1 < 0))), .lit (.string (bytesOf (x * cosK t - -y * sinK t).c1.natAbs)), .lit (.bool (decide ((x * cosK t - -y * sinK t).c2 < 0))), .lit (.string (bytesOf (x * cosK t - -y * sinK t).c2.natAbs)), .lit (.bool (decide ((x * cosK t - -y * sinK t).c3 < 0))), .lit (.string (bytesOf (x * cosK t - -y * sinK t).c3.natAbs)), .lit (.bool (decide ((x * cosK t - -y * sinK t).d < 0))), .lit (.string (bytesOf (x * cosK t - -y * sinK t).d.natAbs)), .lit (.bool (decide ((x * sinK t + -y * cosK t).c0 < 0))), .lit (.string (bytesOf (x * sinK t + -y * cosK t).c0.natAbs)), .lit (.bool (decide ((x * sinK t + -y * cosK t).c1 < 0))), .lit (.string (bytesOf (x * sinK t + -y * cosK t).c1.natAbs)), .lit (.bool (decide ((x * sinK t + -y * cosK t).c2 < 0))), .lit (.string (bytesOf (x * sinK t + -y * cosK t).c2.natAbs)), .lit (.bool (decide ((x * sinK t + -y * cosK t).c3 < 0))), .lit (.string (bytesOf (x * sinK t + -y * cosK t).c3.natAbs)), .lit (.bool (decide ((x * sinK t + -y * cosK t).d < 0))), .lit (.string (bytesOf (x * sinK t + -y * cosK t).d.natAbs)), .lit (.bool (decide (z.c0 < 0))), .lit (.string (bytesOf z.c0.natAbs)), .lit (.bool (decide (z.c1 < 0))), .lit (.string (bytesOf z.c1.natAbs)), .lit (.bool (decide (z.c2 < 0))), .lit (.string (bytesOf z.c2.natAbs)), .lit (.bool (decide (z.c3 < 0))), .lit (.string (bytesOf z.c3.natAbs)), .lit (.bool (decide (z.d < 0))), .lit (.string (bytesOf z.d.natAbs))]) :=
 pcallT (.r 4 ((WValid_spec (t) (b)).eqB h1) (.b 9 h2 (.r 11 (WFlip_K (x) (y) (z) s11_0 s11_1 s11_2) (.c (lq 30 30) (.r 16 (WTurn_K (x) (-y) (z) (t) s16_0 s16_1 s16_2) (.c (lq 30 30) .nil)))))) (by kernel_rfl)
theorem WMv_p2 (x y z : K) (t : Int) (b : Bool) (h1 : (validM t) = true) (h2 : (b) = false) (s13_0 : x.sz ≤ 1000000) (s13_1 : y.sz ≤ 1000000) (s13_2 : z.sz ≤ 1000000) : PCall P 53 [vecC x y z, .agg [ci64 t, .lit (.bool b)]] (.agg [.lit (.bool (decide ((x * cosK t - y * sinK t).c0 < 0))), .lit (.string (bytesOf (x * cosK t - y * sinK t).c0.natAbs)), .lit (.bool (decide ((x * cosK t - y * sinK t).c1 < 0))), .lit (.string (bytesOf (x * cosK t - y * sinK t).c1.natAbs)), .lit (.bool (decide ((x * cosK t - y * sinK t).c2 < 0))), .lit (.string (bytesOf (x * cosK t - y * sinK t).c2.natAbs)), .lit (.bool (decide ((x * cosK t - y * sinK t).c3 < 0))), .lit (.string (bytesOf (x * cosK t - y * sinK t).c3.natAbs)), .lit (.bool (decide ((x * cosK t - y * sinK t).d < 0))), .lit (.string (bytesOf (x * cosK t - y * sinK t).d.natAbs)), .lit (.bool (decide ((x * sinK t + y * cosK t).c0 < 0))), .lit (.string (bytesOf (x * sinK t + y * cosK t).c0.natAbs)), .lit (.bool (decide ((x * sinK t + y * cosK t).c1 < 0))), .lit (.string (bytesOf (x * sinK t + y * cosK t).c1.natAbs)), .lit (.bool (decide ((x * sinK t + y * cosK t).c2 < 0))), .lit (.string (bytesOf (x * sinK t + y * cosK t).c2.natAbs)), .lit (.bool (decide ((x * sinK t + y * cosK t).c3 < 0))), .lit (.string (bytesOf (x * sinK t + y * cosK t).c3.natAbs)), .lit (.bool (decide ((x * sinK t + y * cosK t).d < 0))), .lit (.string (bytesOf (x * sinK t + y * cosK t).d.natAbs)), .lit (.bool (decide (z.c0 < 0))), .lit (.string (bytesOf z.c0.natAbs)), .lit (.bool (decide (z.c1 < 0))), .lit (.string (bytesOf z.c1.natAbs)), .lit (.bool (decide (z.c2 < 0))), .lit (.string (bytesOf z.c2.natAbs)), .lit (.bool (decide (z.c3 < 0))), .lit (.string (bytesOf z.c3.natAbs)), .lit (.bool (decide (z.d < 0))), .lit (.string (bytesOf z.d.natAbs))]) :=
 pcallT (.r 4 ((WValid_spec (t) (b)).eqB h1) (.b 9 h2 (.r 13 (WTurn_K (x) (y) (z) (t) s13_0 s13_1 s13_2) (.c (lq 30 30) .nil)))) (by kernel_rfl)
theorem WMv_p3 (x y z : K) (t : Int) (b : Bool) (h1 : (validM t) = false) : PCall P 53 [vecC x y z, .agg [ci64 t, .lit (.bool b)]] (.agg [.lit (.bool false), .lit (.string { data := #[] }), .lit (.bool false), .lit (.string { data := #[] }), .lit (.bool false), .lit (.string { data := #[] }), .lit (.bool false), .lit (.string { data := #[] }), .lit (.bool false), .lit (.string { data := #[] }), .lit (.bool false), .lit (.string { data := #[] }), .lit (.bool false), .lit (.string { data := #[] }), .lit (.bool false), .lit (.string { data := #[] }), .lit (.bool false), .lit (.string { data := #[] }), .lit (.bool false), .lit (.string { data := #[] }), .lit (.bool false), .lit (.string { data := #[] }), .lit (.bool false), .lit (.string { data := #[] }), .lit (.bool false), .lit (.string { data := #[] }), .lit (.bool false), .lit (.string { data := #[] }), .lit (.bool false), .lit (.string { data := #[] })]) :=
 pcallT (.r 4 ((WValid_spec (t) (b)).eqB h1) (.c (lq 30 30) .nil)) (by kernel_rfl)
end Go.Fw
open Go
namespace Go.Fw
set_option maxRecDepth 100000
def mvX (x y : K) (t : Int) (b : Bool) : K := x * cosK t - (if b then -y else y) * sinK t
def mvY (x y : K) (t : Int) (b : Bool) : K := x * sinK t + (if b then -y else y) * cosK t
def zeroNum : List CV := [.lit (.bool false), cstr ⟨#[]⟩, .lit (.bool false), cstr ⟨#[]⟩, .lit (.bool false), cstr ⟨#[]⟩, .lit (.bool false), cstr ⟨#[]⟩, .lit (.bool false), cstr ⟨#[]⟩]
def zeroVec : CV := .agg (zeroNum ++ (zeroNum ++ zeroNum))
theorem WMove_K (x y z : K) (t : Int) (b : Bool) (ht : validM t = true) (hx : x.sz ≤ 1000000) (hy : y.sz ≤ 1000000) (hz : z.sz ≤ 1000000) :
    PCall P 53 [vecC x y z, .agg [ci64 t, .lit (.bool b)]] (vecC (mvX x y t b) (mvY x y t b) z) := by
 cases b with
 | true => exact WMv_p1 x y z t true ht rfl hx hy hz hx (by rw [K.sz_neg]; exact hy) hz
 | false => exact WMv_p2 x y z t false ht rfl hx hy hz
theorem WMove_bad (x y z : K) (t : Int) (b : Bool) (ht : validM t = false) : PCall P 53 [vecC x y z, .agg [ci64 t, .lit (.bool b)]] zeroVec := WMv_p3 x y z t b ht
end Go.Fw
open Go
namespace Go.Fw
set_option maxRecDepth 100000
theorem RRaw_c (x : RN) : PCall P 74 [x.c, ci64 12] (.lit (.bool (x.raw 12))) := by
 have big : ∀ {n : Nat}, ¬ n ≤ 12 → decide ((n : Int) > 12) = true := fun h => decide_eq_true (by omega)
 have sml : ∀ {n : Nat}, n ≤ 12 → decide ((n : Int) > 12) = false := fun h => decide_eq_false (by omega)
 unfold RN.raw
 by_cases h0 : x.s0.size ≤ 12
 · by_cases h1 : x.s1.size ≤ 12
   · by_cases h2 : x.s2.size ≤ 12
     · by_cases h3 : x.s3.size ≤ 12
       · refine (RRw_p5 x (sml h0) (sml h1) (sml h2) (sml h3)).eqB ?_
         rw [decide_eq_true h0, decide_eq_true h1, decide_eq_true h2, decide_eq_true h3, Bool.true_and, Bool.true_and, Bool.true_and, Bool.true_and, decide_eq_decide]
         omega
       · refine (RRw_p4 x (sml h0) (sml h1) (sml h2) (big h3)).eqB ?_
         simp [h3]
     · refine (RRw_p3 x (sml h0) (sml h1) (big h2)).eqB ?_
       simp [h2]
   · refine (RRw_p2 x (sml h0) (big h1)).eqB ?_
     simp [h1]
 · refine (RRw_p1 x (big h0)).eqB ?_
   simp [h0]
def raw3 (n : Nat) (x y z : RN) : Bool := x.raw n && (y.raw n && z.raw n)
def ok3 (x y z : RN) : Bool := x.ok && (y.ok && z.ok)
theorem raw3_iff {n : Nat} {x y z : RN} : raw3 n x y z = true ↔ x.raw n = true ∧ y.raw n = true ∧ z.raw n = true := by simp [raw3]
theorem RN.raw_mono {x : RN} {n m : Nat} (h : x.raw n = true) (hm : n ≤ m) : x.raw m = true := by
 unfold RN.raw at h ⊢
 simp only [Bool.and_eq_true, decide_eq_true_eq] at h ⊢
 omega
theorem RRi_c (x y z : RN) (h : raw3 1000000 x y z = true) : PCall P 138 [vecR x y z] (.lit (.bool (ok3 x y z))) := by
 obtain ⟨hx, hy, hz⟩ := raw3_iff.1 h
 unfold ok3
 cases ex : x.ok
 · exact rri_p4 x y z ex hx
 · cases ey : y.ok
   · exact rri_p3 x y z ex ey hx hy
   · cases ez : z.ok
     · exact rri_p2 x y z ex ey ez hx hy hz
     · exact rri_p1 x y z ex ey ez hx hy hz
theorem WRi_c (x y z : RN) (h : raw3 1000000 x y z = true) : PCall P 134 [vecR x y z] (.lit (.bool (ok3 x y z))) := by
 obtain ⟨hx, hy, hz⟩ := raw3_iff.1 h
 unfold ok3
 cases ex : x.ok
 · exact wri_p4 x y z ex hx
 · cases ey : y.ok
   · exact wri_p3 x y z ex ey hx hy
   · cases ez : z.ok
     · exact wri_p2 x y z ex ey ez hx hy hz
     · exact wri_p1 x y z ex ey ez hx hy hz
theorem RRi_K (x y z : K) (hx : x.sz ≤ 1000000) (hy : y.sz ≤ 1000000) (hz : z.sz ≤ 1000000) : PCall P 138 [vecC x y z] (.lit (.bool true)) := by
 have := RRi_c (.ofK x) (.ofK y) (.ofK z) (raw3_iff.2 ⟨RN.ofK_raw x hx, RN.ofK_raw y hy, RN.ofK_raw z hz⟩)
 unfold ok3 at this
 rw [RN.ofK_ok, RN.ofK_ok, RN.ofK_ok] at this
 exact this
theorem ok3_k {x y z : RN} (h : ok3 x y z = true) : ∃ a b c : K, vecR x y z = vecC a b c ∧ x.l = numL a ∧ y.l = numL b ∧ z.l = numL c := by
 unfold ok3 at h
 simp only [Bool.and_eq_true] at h
 obtain ⟨a, ha⟩ := RN.ok_k h.1
 obtain ⟨b, hb⟩ := RN.ok_k h.2.1
 obtain ⟨c, hc⟩ := RN.ok_k h.2.2
 refine ⟨a, b, c, ?_, ha, hb, hc⟩
 unfold vecR vecC
 rw [ha, hb, hc]
end Go.Fw
open Go IntKind
namespace Go.Fw
set_option maxRecDepth 100000
theorem fewr_p1 (x y z : RN) (h1 : (RN.raw 12 x) = true) (h2 : (RN.raw 12 y) = true) (h3 : (RN.raw 12 z) = true) : PCall P 48 [vecR x y z] (.lit (.bool true)) :=
 pcallT (.r 4 ((RRaw_c (x)).eqB h1) (.r 8 ((RRaw_c (y)).eqB h2) (.r 13 ((RRaw_c (z)).eqB h3) .nil))) (by kernel_rfl)
theorem fewr_p2 (x y z : RN) (h1 : (RN.raw 12 x) = true) (h2 : (RN.raw 12 y) = true) (h3 : (RN.raw 12 z) = false) : PCall P 48 [vecR x y z] (.lit (.bool false)) :=
 pcallT (.r 4 ((RRaw_c (x)).eqB h1) (.r 8 ((RRaw_c (y)).eqB h2) (.r 13 ((RRaw_c (z)).eqB h3) .nil))) (by kernel_rfl)
theorem fewr_p3 (x y z : RN) (h1 : (RN.raw 12 x) = true) (h2 : (RN.raw 12 y) = false) : PCall P 48 [vecR x y z] (.lit (.bool false)) :=
 pcallT (.r 4 ((RRaw_c (x)).eqB h1) (.r 8 ((RRaw_c (y)).eqB h2) .nil)) (by kernel_rfl)
theorem fewr_p4 (x y z : RN) (h1 : (RN.raw 12 x) = false) : PCall P 48 [vecR x y z] (.lit (.bool false)) :=
 pcallT (.r 4 ((RRaw_c (x)).eqB h1) .nil) (by kernel_rfl)
theorem rTuB_p1 (x y z : RN) (i : Int) (g : ok3 x y z = false) (s3_0 : raw3 1000000 x y z = true) : PCall P 50 [vecR x y z, ci64 i] zeroVec :=
 pcallT (.r 3 ((RRi_c (x) (y) (z) s3_0).eqB g) (.c (lq 30 30) .nil)) (by kernel_rfl)
theorem rFlB_p1 (x y z : RN) (g : ok3 x y z = false) (s3_0 : raw3 1000000 x y z = true) : PCall P 52 [vecR x y z] zeroVec :=
 pcallT (.r 3 ((RRi_c (x) (y) (z) s3_0).eqB g) (.c (lq 30 30) .nil)) (by kernel_rfl)
theorem wTuB_p1 (x y z : RN) (i : Int) (g : ok3 x y z = false) (s3_0 : raw3 1000000 x y z = true) : PCall P 49 [vecR x y z, ci64 i] zeroVec :=
 pcallT (.r 3 ((WRi_c (x) (y) (z) s3_0).eqB g) (.c (lq 30 30) .nil)) (by kernel_rfl)
theorem wFlB_p1 (x y z : RN) (g : ok3 x y z = false) (s3_0 : raw3 1000000 x y z = true) : PCall P 51 [vecR x y z] zeroVec :=
 pcallT (.r 3 ((WRi_c (x) (y) (z) s3_0).eqB g) (.c (lq 30 30) .nil)) (by kernel_rfl)
theorem rTuK_p1 (x y z : K) (i : Int) (s3_0 : x.sz ≤ 1000000) (s3_1 : y.sz ≤ 1000000) (s3_2 : z.sz ≤ 1000000) (s17_0 : (cosK i).sz ≤ 1000000) (s17_1 : x.sz ≤ 1000000) (s21_0 : (sinK i).sz ≤ 1000000) (s21_1 : y.sz ≤ 1000000) (s22_0 : (cosK i * x).sz ≤ 1000000) (s22_1 : (sinK i * y).sz ≤ 1000000) (s26_0 : (sinK i).sz ≤ 1000000) (s26_1 : x.sz ≤ 1000000) (s30_0 : (cosK i).sz ≤ 1000000) (s30_1 : y.sz ≤ 1000000) (s31_0 : (sinK i * x).sz ≤ 1000000) (s31_1 : (cosK i * y).sz ≤ 1000000) : PCall P 50 [vecC x y z, ci64 i] (vecC (cosK i * x - sinK i * y) (sinK i * x + cosK i * y) z) :=
 pcallT (.r 3 (RRi_K (x) (y) (z) s3_0 s3_1 s3_2) (.r 7 (RCos_spec (i)) (.r 9 (RSin_spec (i)) (.c (lq 10 10) (.c (lq 10 10) (.r 17 (RMul_K (cosK i) (x) s17_0 s17_1) (.r 21 (RMul_K (sinK i) (y) s21_0 s21_1) (.r 22 (RSub_K (cosK i * x) (sinK i * y) s22_0 s22_1) (.r 26 (RMul_K (sinK i) (x) s26_0 s26_1) (.r 30 (RMul_K (cosK i) (y) s30_0 s30_1) (.r 31 (RAdd_K (sinK i * x) (cosK i * y) s31_0 s31_1) (.c (lq 30 30) .nil)))))))))))) (by kernel_rfl)
theorem rFlK_p1 (x y z : K) (s3_0 : x.sz ≤ 1000000) (s3_1 : y.sz ≤ 1000000) (s3_2 : z.sz ≤ 1000000) (s10_0 : y.sz ≤ 1000000) : PCall P 52 [vecC x y z] (vecC x (-y) z) :=
 pcallT (.r 3 (RRi_K (x) (y) (z) s3_0 s3_1 s3_2) (.r 10 (RNeg_K (y) s10_0) (.c (lq 30 30) .nil))) (by kernel_rfl)
end Go.Fw
open Go
namespace Go.Fw
set_option maxRecDepth 100000
theorem cstr_inj {a b : ByteArray} (h : cstr a = cstr b) : a = b := by injection h with h; injection h
theorem l_sz {x : RN} {k : K} {n : Nat} (h : x.l = numL k) (hr : x.raw n = true) : k.sz ≤ n := by
 unfold RN.l numL at h
 simp only [List.cons.injEq, and_true] at h
 obtain ⟨_, e0, _, e1, _, e2, _, e3, _, e4⟩ := h
 have f0 := cstr_inj e0
 have f1 := cstr_inj e1
 have f2 := cstr_inj e2
 have f3 := cstr_inj e3
 have f4 := cstr_inj e4
 unfold RN.raw at hr
 simp only [Bool.and_eq_true, decide_eq_true_eq] at hr
 rw [f0, f1, f2, f3, f4] at hr
 exact K.sz_le.2 ⟨size_le.1 hr.1.1.1.1, size_le.1 hr.1.1.1.2, size_le.1 hr.1.1.2, size_le.1 hr.1.2, size_le.1 hr.2⟩
theorem few_c (x y z : RN) : PCall P 48 [vecR x y z] (.lit (.bool (raw3 12 x y z))) := by
 unfold raw3
 cases ex : x.raw 12
 · exact fewr_p4 x y z ex
 · cases ey : y.raw 12
   · exact fewr_p3 x y z ex ey
   · cases ez : z.raw 12
     · exact fewr_p2 x y z ex ey ez
     · exact fewr_p1 x y z ex ey ez
theorem few_K (x y z : K) (hx : x.sz ≤ 12) (hy : y.sz ≤ 12) (hz : z.sz ≤ 12) : PCall P 48 [vecC x y z] (.lit (.bool true)) := by
 have := few_c (.ofK x) (.ofK y) (.ofK z)
 rw [raw3_iff.2 ⟨RN.ofK_raw x hx, RN.ofK_raw y hy, RN.ofK_raw z hz⟩] at this
 exact this
def RN.zero : RN := ⟨false, ⟨#[]⟩, false, ⟨#[]⟩, false, ⟨#[]⟩, false, ⟨#[]⟩, false, ⟨#[]⟩⟩
theorem zero_bad : ok3 .zero .zero .zero = false := by decide
theorem zero_raw : raw3 1000000 .zero .zero .zero = true := by decide
theorem WTu_bad (x y z : RN) (i : Int) (g : ok3 x y z = false) (h : raw3 1000000 x y z = true) : PCall P 49 [vecR x y z, ci64 i] zeroVec := wTuB_p1 x y z i g h
theorem WFl_bad (x y z : RN) (g : ok3 x y z = false) (h : raw3 1000000 x y z = true) : PCall P 51 [vecR x y z] zeroVec := wFlB_p1 x y z g h
theorem RTu_bad (x y z : RN) (i : Int) (g : ok3 x y z = false) (h : raw3 1000000 x y z = true) : PCall P 50 [vecR x y z, ci64 i] zeroVec := rTuB_p1 x y z i g h
theorem RFl_bad (x y z : RN) (g : ok3 x y z = false) (h : raw3 1000000 x y z = true) : PCall P 52 [vecR x y z] zeroVec := rFlB_p1 x y z g h
theorem WTu_zero (i : Int) : PCall P 49 [zeroVec, ci64 i] zeroVec := WTu_bad .zero .zero .zero i zero_bad zero_raw
theorem RTu_zero (i : Int) : PCall P 50 [zeroVec, ci64 i] zeroVec := RTu_bad .zero .zero .zero i zero_bad zero_raw
theorem RTurn_K (x y z : K) (i : Int) (hx : x.sz ≤ 100000) (hy : y.sz ≤ 100000) (hz : z.sz ≤ 100000) :
    PCall P 50 [vecC x y z, ci64 i] (vecC (x * cosK i - y * sinK i) (x * sinK i + y * cosK i) z) := by
 have c := sz_cos i
 have s := sz_sin i
 have m1 := K.sz_mul (cosK i) x
 have m2 := K.sz_mul (sinK i) y
 have m3 := K.sz_mul (sinK i) x
 have m4 := K.sz_mul (cosK i) y
 rw [K.mul_comm x, K.mul_comm y, K.mul_comm x, K.mul_comm y]
 exact rTuK_p1 x y z i (by omega) (by omega) (by omega) (by omega) (by omega) (by omega) (by omega) (by omega) (by omega) (by omega) (by omega) (by omega) (by omega) (by omega) (by omega)
theorem RFlip_K (x y z : K) (hx : x.sz ≤ 1000000) (hy : y.sz ≤ 1000000) (hz : z.sz ≤ 1000000) : PCall P 52 [vecC x y z] (vecC x (-y) z) := rFlK_p1 x y z hx hy hz hy
end Go.Fw
open Go IntKind
namespace Go.Fw
set_option maxRecDepth 100000
theorem wMvB_p1 (x y z : RN) (t : Int) (b : Bool) (g : ok3 x y z = false) (h1 : (validM t) = true) (h2 : (b) = true) (s11_0 : raw3 1000000 x y z = true) : PCall P 53 [vecR x y z, .agg [ci64 t, .lit (.bool b)]] zeroVec :=
 pcallT (.r 4 ((WValid_spec (t) (b)).eqB h1) (.b 9 h2 (.r 11 (WFl_bad (x) (y) (z) g s11_0) (.c (lq 30 30) (.r 16 (WTu_zero (t)) (.c (lq 30 30) .nil)))))) (by kernel_rfl)
theorem wMvB_p2 (x y z : RN) (t : Int) (b : Bool) (g : ok3 x y z = false) (h1 : (validM t) = true) (h2 : (b) = false) (s13_0 : raw3 1000000 x y z = true) : PCall P 53 [vecR x y z, .agg [ci64 t, .lit (.bool b)]] zeroVec :=
 pcallT (.r 4 ((WValid_spec (t) (b)).eqB h1) (.b 9 h2 (.r 13 (WTu_bad (x) (y) (z) (t) g s13_0) (.c (lq 30 30) .nil)))) (by kernel_rfl)
theorem wMvB_p3 (x y z : RN) (t : Int) (b : Bool) (_g : ok3 x y z = false) (h1 : (validM t) = false) : PCall P 53 [vecR x y z, .agg [ci64 t, .lit (.bool b)]] zeroVec :=
 pcallT (.r 4 ((WValid_spec (t) (b)).eqB h1) (.c (lq 30 30) .nil)) (by kernel_rfl)
theorem rMvB_p1 (x y z : RN) (t : Int) (b : Bool) (g : ok3 x y z = false) (h1 : (validM t) = true) (h2 : (b) = true) (s11_0 : raw3 1000000 x y z = true) : PCall P 54 [vecR x y z, .agg [ci64 t, .lit (.bool b)]] zeroVec :=
 pcallT (.r 4 ((RValidM_spec (t) (b)).eqB h1) (.b 9 h2 (.r 11 (RFl_bad (x) (y) (z) g s11_0) (.c (lq 30 30) (.r 16 (RTu_zero (t)) (.c (lq 30 30) .nil)))))) (by kernel_rfl)
theorem rMvB_p2 (x y z : RN) (t : Int) (b : Bool) (g : ok3 x y z = false) (h1 : (validM t) = true) (h2 : (b) = false) (s13_0 : raw3 1000000 x y z = true) : PCall P 54 [vecR x y z, .agg [ci64 t, .lit (.bool b)]] zeroVec :=
 pcallT (.r 4 ((RValidM_spec (t) (b)).eqB h1) (.b 9 h2 (.r 13 (RTu_bad (x) (y) (z) (t) g s13_0) (.c (lq 30 30) .nil)))) (by kernel_rfl)
theorem rMvB_p3 (x y z : RN) (t : Int) (b : Bool) (_g : ok3 x y z = false) (h1 : (validM t) = false) : PCall P 54 [vecR x y z, .agg [ci64 t, .lit (.bool b)]] zeroVec :=
 pcallT (.r 4 ((RValidM_spec (t) (b)).eqB h1) (.c (lq 30 30) .nil)) (by kernel_rfl)
theorem rMvK_p1 (x y z : K) (t : Int) (b : Bool) (h1 : (validM t) = true) (h2 : (b) = true) (s11_0 : x.sz ≤ 1000000) (s11_1 : y.sz ≤ 1000000) (s11_2 : z.sz ≤ 1000000) (s16_0 : x.sz ≤ 100000) (s16_1 : (-y).sz ≤ 100000) (s16_2 : z.sz ≤ 100000) : PCall P 54 [vecC x y z, .agg [ci64 t, .lit (.bool b)]] (vecC (x * cosK t - -y * sinK t) (x * sinK t + -y * cosK t) z) :=
 pcallT (.r 4 ((RValidM_spec (t) (b)).eqB h1) (.b 9 h2 (.r 11 (RFlip_K (x) (y) (z) s11_0 s11_1 s11_2) (.c (lq 30 30) (.r 16 (RTurn_K (x) (-y) (z) (t) s16_0 s16_1 s16_2) (.c (lq 30 30) .nil)))))) (by kernel_rfl)
theorem rMvK_p2 (x y z : K) (t : Int) (b : Bool) (h1 : (validM t) = true) (h2 : (b) = false) (s13_0 : x.sz ≤ 100000) (s13_1 : y.sz ≤ 100000) (s13_2 : z.sz ≤ 100000) : PCall P 54 [vecC x y z, .agg [ci64 t, .lit (.bool b)]] (vecC (x * cosK t - y * sinK t) (x * sinK t + y * cosK t) z) :=
 pcallT (.r 4 ((RValidM_spec (t) (b)).eqB h1) (.b 9 h2 (.r 13 (RTurn_K (x) (y) (z) (t) s13_0 s13_1 s13_2) (.c (lq 30 30) .nil)))) (by kernel_rfl)
theorem rMvK_p3 (x y z : K) (t : Int) (b : Bool) (h1 : (validM t) = false) : PCall P 54 [vecC x y z, .agg [ci64 t, .lit (.bool b)]] zeroVec :=
 pcallT (.r 4 ((RValidM_spec (t) (b)).eqB h1) (.c (lq 30 30) .nil)) (by kernel_rfl)
end Go.Fw
open Go
namespace Go.Fw
set_option maxRecDepth 100000
theorem WMov_bad (x y z : RN) (t : Int) (b : Bool) (g : ok3 x y z = false) (h : raw3 1000000 x y z = true) : PCall P 53 [vecR x y z, .agg [ci64 t, .lit (.bool b)]] zeroVec := by
 cases ht : validM t
 · exact wMvB_p3 x y z t b g ht
 · cases b
   · exact wMvB_p2 x y z t false g ht rfl h
   · exact wMvB_p1 x y z t true g ht rfl h
theorem RMov_bad (x y z : RN) (t : Int) (b : Bool) (g : ok3 x y z = false) (h : raw3 1000000 x y z = true) : PCall P 54 [vecR x y z, .agg [ci64 t, .lit (.bool b)]] zeroVec := by
 cases ht : validM t
 · exact rMvB_p3 x y z t b g ht
 · cases b
   · exact rMvB_p2 x y z t false g ht rfl h
   · exact rMvB_p1 x y z t true g ht rfl h
theorem RMove_K (x y z : K) (t : Int) (b : Bool) (ht : validM t = true) (hx : x.sz ≤ 100000) (hy : y.sz ≤ 100000) (hz : z.sz ≤ 100000) :
    PCall P 54 [vecC x y z, .agg [ci64 t, .lit (.bool b)]] (vecC (mvX x y t b) (mvY x y t b) z) := by
 cases b with
 | true => exact rMvK_p1 x y z t true ht rfl (by omega) (by omega) (by omega) hx (by rw [K.sz_neg]; exact hy) hz
 | false => exact rMvK_p2 x y z t false ht rfl hx hy hz
theorem RMove_bad (x y z : K) (t : Int) (b : Bool) (ht : validM t = false) : PCall P 54 [vecC x y z, .agg [ci64 t, .lit (.bool b)]] zeroVec := rMvK_p3 x y z t b ht
end Go.Fw
open Go IntKind
namespace Go.Fw
set_option maxRecDepth 100000
theorem L7f_p1 (x y z : RN) (i t : Int) (b : Bool) (g : raw3 12 x y z = false) : PCall P 7 [vecR x y z, ci64 i, .agg [ci64 t, .lit (.bool b)]] (.lit (.bool true)) :=
 pcallT (.r 3 (aw_p1) (.r 7 ((few_c (x) (y) (z)).eqB g) .nil)) (by kernel_rfl)
theorem L7b_p1 (x y z : RN) (i t : Int) (b : Bool) (g : raw3 12 x y z = true) (g2 : ok3 x y z = false) (h1 : (validM t) = true) (s12_0 s15_0 s19_0 s21_0 s27_0 s30_0 : raw3 1000000 x y z = true) : PCall P 7 [vecR x y z, ci64 i, .agg [ci64 t, .lit (.bool b)]] (.lit (.bool true)) :=
 pcallT (.r 3 (aw_p1) (.r 7 ((few_c (x) (y) (z)).eqB g) (.r 12 (WTu_bad (x) (y) (z) (i) g2 s12_0) (.r 15 (RTu_bad (x) (y) (z) (i) g2 s15_0) (.r 19 (WFl_bad (x) (y) (z) g2 s19_0) (.r 21 (RFl_bad (x) (y) (z) g2 s21_0) (.r 27 (WMov_bad (x) (y) (z) (t) (b) g2 s27_0) (.r 30 (RMov_bad (x) (y) (z) (t) (b) g2 s30_0) (.r 35 ((WValid_spec (t) (b)).eqB h1) (.r 37 ((RValidM_spec (t) (b)).eqB h1) .nil)))))))))) (by kernel_rfl)
theorem L7b_p2 (x y z : RN) (i t : Int) (b : Bool) (g : raw3 12 x y z = true) (g2 : ok3 x y z = false) (h1 : (validM t) = false) (s12_0 s15_0 s19_0 s21_0 s27_0 s30_0 : raw3 1000000 x y z = true) : PCall P 7 [vecR x y z, ci64 i, .agg [ci64 t, .lit (.bool b)]] (.lit (.bool true)) :=
 pcallT (.r 3 (aw_p1) (.r 7 ((few_c (x) (y) (z)).eqB g) (.r 12 (WTu_bad (x) (y) (z) (i) g2 s12_0) (.r 15 (RTu_bad (x) (y) (z) (i) g2 s15_0) (.r 19 (WFl_bad (x) (y) (z) g2 s19_0) (.r 21 (RFl_bad (x) (y) (z) g2 s21_0) (.r 27 (WMov_bad (x) (y) (z) (t) (b) g2 s27_0) (.r 30 (RMov_bad (x) (y) (z) (t) (b) g2 s30_0) (.r 35 ((WValid_spec (t) (b)).eqB h1) (.r 37 ((RValidM_spec (t) (b)).eqB h1) .nil)))))))))) (by kernel_rfl)
theorem L7k_p1 (x y z : K) (i t : Int) (b : Bool) (g : validM t = true) (h1 : (numB (x * cosK i - y * sinK i) (x * cosK i - y * sinK i) && (numB (x * sinK i + y * cosK i) (x * sinK i + y * cosK i) && (numB z z && true))) = true) (h2 : (numB x x && (numB (-y) (-y) && (numB z z && true))) = true) (h3 : (numB (mvX x y t b) (mvX x y t b) && (numB (mvY x y t b) (mvY x y t b) && (numB z z && true))) = true) (s7_0 : x.sz ≤ 12) (s7_1 : y.sz ≤ 12) (s7_2 : z.sz ≤ 12) (s12_0 : x.sz ≤ 1000000) (s12_1 : y.sz ≤ 1000000) (s12_2 : z.sz ≤ 1000000) (s15_0 : x.sz ≤ 100000) (s15_1 : y.sz ≤ 100000) (s15_2 : z.sz ≤ 100000) (s19_0 : x.sz ≤ 1000000) (s19_1 : y.sz ≤ 1000000) (s19_2 : z.sz ≤ 1000000) (s21_0 : x.sz ≤ 1000000) (s21_1 : y.sz ≤ 1000000) (s21_2 : z.sz ≤ 1000000) (s27_0 : x.sz ≤ 1000000) (s27_1 : y.sz ≤ 1000000) (s27_2 : z.sz ≤ 1000000) (s30_0 : x.sz ≤ 100000) (s30_1 : y.sz ≤ 100000) (s30_2 : z.sz ≤ 100000) : PCall P 7 [vecC x y z, ci64 i, .agg [ci64 t, .lit (.bool b)]] (.lit (.bool true)) :=
 pcallT (.r 3 (aw_p1) (.r 7 (few_K (x) (y) (z) s7_0 s7_1 s7_2) (.r 12 (WTurn_K (x) (y) (z) (i) s12_0 s12_1 s12_2) (.r 15 (RTurn_K (x) (y) (z) (i) s15_0 s15_1 s15_2) (.b 17 h1 (.r 19 (WFlip_K (x) (y) (z) s19_0 s19_1 s19_2) (.r 21 (RFlip_K (x) (y) (z) s21_0 s21_1 s21_2) (.b 24 h2 (.r 27 (WMove_K (x) (y) (z) (t) (b) g s27_0 s27_1 s27_2) (.r 30 (RMove_K (x) (y) (z) (t) (b) g s30_0 s30_1 s30_2) (.b 33 h3 (.r 35 ((WValid_spec (t) (b)).eqB g) (.r 37 ((RValidM_spec (t) (b)).eqB g) .nil))))))))))))) (by kernel_rfl)
theorem L7m_p1 (x y z : K) (i t : Int) (b : Bool) (g : validM t = false) (h1 : (numB (x * cosK i - y * sinK i) (x * cosK i - y * sinK i) && (numB (x * sinK i + y * cosK i) (x * sinK i + y * cosK i) && (numB z z && true))) = true) (h2 : (numB x x && (numB (-y) (-y) && (numB z z && true))) = true) (s7_0 : x.sz ≤ 12) (s7_1 : y.sz ≤ 12) (s7_2 : z.sz ≤ 12) (s12_0 : x.sz ≤ 1000000) (s12_1 : y.sz ≤ 1000000) (s12_2 : z.sz ≤ 1000000) (s15_0 : x.sz ≤ 100000) (s15_1 : y.sz ≤ 100000) (s15_2 : z.sz ≤ 100000) (s19_0 : x.sz ≤ 1000000) (s19_1 : y.sz ≤ 1000000) (s19_2 : z.sz ≤ 1000000) (s21_0 : x.sz ≤ 1000000) (s21_1 : y.sz ≤ 1000000) (s21_2 : z.sz ≤ 1000000) : PCall P 7 [vecC x y z, ci64 i, .agg [ci64 t, .lit (.bool b)]] (.lit (.bool true)) :=
 pcallT (.r 3 (aw_p1) (.r 7 (few_K (x) (y) (z) s7_0 s7_1 s7_2) (.r 12 (WTurn_K (x) (y) (z) (i) s12_0 s12_1 s12_2) (.r 15 (RTurn_K (x) (y) (z) (i) s15_0 s15_1 s15_2) (.b 17 h1 (.r 19 (WFlip_K (x) (y) (z) s19_0 s19_1 s19_2) (.r 21 (RFlip_K (x) (y) (z) s21_0 s21_1 s21_2) (.b 24 h2 (.r 27 (WMove_bad (x) (y) (z) (t) (b) g) (.r 30 (RMove_bad (x) (y) (z) (t) (b) g) (.r 35 ((WValid_spec (t) (b)).eqB g) (.r 37 ((RValidM_spec (t) (b)).eqB g) .nil)))))))))))) (by kernel_rfl)
end Go.Fw
open Go
namespace Go.Fw
set_option maxRecDepth 100000
theorem vecB_refl (x y z : K) : (numB x x && (numB y y && (numB z z && true))) = true := by rw [numB_eq rfl, numB_eq rfl, numB_eq rfl]; rfl
theorem vectors_true (x y z : RN) (i t : Int) (b : Bool) : PCall P 7 [vecR x y z, ci64 i, .agg [ci64 t, .lit (.bool b)]] (.lit (.bool true)) := by
 cases g : raw3 12 x y z
 · exact L7f_p1 x y z i t b g
 · obtain ⟨r1, r2, r3⟩ := raw3_iff.1 g
   have big : raw3 1000000 x y z = true := raw3_iff.2 ⟨RN.raw_mono r1 (by decide), RN.raw_mono r2 (by decide), RN.raw_mono r3 (by decide)⟩
   cases g2 : ok3 x y z
   · cases ht : validM t
     · exact L7b_p2 x y z i t b g g2 ht big big big big big big
     · exact L7b_p1 x y z i t b g g2 ht big big big big big big
   · obtain ⟨k, l, m, e, e1, e2, e3⟩ := ok3_k g2
     have s1 := l_sz e1 r1
     have s2 := l_sz e2 r2
     have s3 := l_sz e3 r3
     rw [e]
     have a1 : k.sz ≤ 1000000 := by omega
     have a2 : l.sz ≤ 1000000 := by omega
     have a3 : m.sz ≤ 1000000 := by omega
     have b1 : k.sz ≤ 100000 := by omega
     have b2 : l.sz ≤ 100000 := by omega
     have b3 : m.sz ≤ 100000 := by omega
     cases ht : validM t
     · exact L7m_p1 k l m i t b ht (vecB_refl ..) (vecB_refl ..) s1 s2 s3 a1 a2 a3 b1 b2 b3 a1 a2 a3 a1 a2 a3
     · exact L7k_p1 k l m i t b ht (vecB_refl ..) (vecB_refl ..) (vecB_refl ..) s1 s2 s3 a1 a2 a3 b1 b2 b3 a1 a2 a3 a1 a2 a3 a1 a2 a3 b1 b2 b3
end Go.Fw
open Go Go.Proofs Go.Proofs.YtcafjpldfnegiaaGreatDoor
namespace Go.Fw
set_option maxRecDepth 100000
def RN.v (x : RN) : List Value := [.bool x.b0, .string x.s0, .bool x.b1, .string x.s1, .bool x.b2, .string x.s2, .bool x.b3, .string x.s3, .bool x.b4, .string x.s4]
abbrev vecK : List CT := [.b, .s, .b, .s, .b, .s, .b, .s, .b, .s, .b, .s, .b, .s, .b, .s, .b, .s, .b, .s, .b, .s, .b, .s, .b, .s, .b, .s, .b, .s]
theorem num_open {ts : List CT} {l : List Value} (h : CTs (.b :: .s :: .b :: .s :: .b :: .s :: .b :: .s :: .b :: .s :: ts) l) : ∃ (x : RN) (m : List Value), l = x.v ++ m ∧ CTs ts m := by
 simp only [CTs, CT.ok] at h
 obtain ⟨_, _, rfl, ⟨b0, rfl⟩, _, _, rfl, ⟨s0, rfl⟩, _, _, rfl, ⟨b1, rfl⟩, _, _, rfl, ⟨s1, rfl⟩, _, _, rfl, ⟨b2, rfl⟩, _, _, rfl, ⟨s2, rfl⟩, _, _, rfl, ⟨b3, rfl⟩, _, _, rfl, ⟨s3, rfl⟩, _, _, rfl, ⟨b4, rfl⟩, _, m, rfl, ⟨s4, rfl⟩, hm⟩ := h
 exact ⟨⟨b0, s0, b1, s1, b2, s2, b3, s3, b4, s4⟩, m, rfl, hm⟩
theorem vec_open {ts : List CT} {l : List Value} (h : CTs (vecK ++ ts) l) : ∃ (x y z : RN) (m : List Value), l = x.v ++ (y.v ++ (z.v ++ m)) ∧ CTs ts m := by
 obtain ⟨x, m1, rfl, h1⟩ := num_open h
 obtain ⟨y, m2, rfl, h2⟩ := num_open h1
 obtain ⟨z, m3, rfl, h3⟩ := num_open h2
 exact ⟨x, y, z, m3, rfl, h3⟩
theorem vec_open' {l : List Value} (h : CTs vecK l) : ∃ x y z : RN, l = x.v ++ (y.v ++ z.v) := by
 obtain ⟨x, y, z, m, rfl, h4⟩ := vec_open (ts := []) h
 obtain rfl : m = [] := h4
 exact ⟨x, y, z, by simp⟩
theorem vecT : flatTy Tryz.prog 8 51 = some vecK := by kernel_rfl
theorem rep_vec (I : Imm) (x y z : RN) : CV.rep I (vecR x y z) (.agg (x.v ++ (y.v ++ z.v)).toArray) := rep_agg I (x.v ++ (y.v ++ z.v))
end Go.Fw
open Go Go.Proofs Go.Proofs.YtcafjpldfnegiaaGreatDoor
namespace Go.Fw
open Go.ChangeShapes Go.WideShapes Go.ChangeAt Go.RowKit
set_option maxRecDepth 100000
theorem lawCall7 {H : Type} {enc : TypeId × Value → H} (W : World) (base : Nat) (args : Array Value) (ds gs : List (DataW H)) (before : List MemPlace)
    (hval : ∀ (j : Nat) t v, Tryz.f7.params[j]? = some t → args[j]? = some v → Value.okWide Tryz.prog W .any base t v)
    (hW : DataW.Whole enc Tryz.prog Tryz.f7.params.toList Rows.wheelVectorsSpec.vars false W args.toList ds gs before) :
    Calls Tryz.prog 7 args W fun e W' => e = .returned (.bool true) ∧ Below W.heap.size W W' := by
 obtain ⟨p, q, hA, hV, _, _, _⟩ := hW
 rw [Tryz.params7] at hA hval
 obtain ⟨v0, vs0, d0, ds0, p0, q0, ha0, hd0, _, h0, r0⟩ := trodAll_cons hA
 obtain ⟨v1, vs1, d1, ds1, p1, q1, ha1, hd1, _, h1, r1⟩ := trodAll_cons r0
 obtain ⟨v2, vs2, d2, ds2, p2, q2, ha2, hd2, _, h2, r2⟩ := trodAll_cons r1
 obtain ⟨hz, hzd, _⟩ := trodAll_nil r2
 subst hz ha2 ha1
 obtain rfl : args = #[v0, v1, v2] := by cases args; simp_all
 obtain ⟨cs0, rfl, hc0⟩ := open_flat 8 vecT (by kernel_rfl) (hval 0 51 v0 rfl rfl) h0
 obtain ⟨x0, y0, z0, rfl⟩ := vec_open' hc0
 obtain ⟨n1, rfl, _, _, hw1⟩ := open_int Tryz.underlying3 (hval 1 3 v1 rfl rfl) h1
 obtain ⟨cs2, rfl, hc2⟩ := open_flat 8 (show flatTy Tryz.prog 8 31 = some [.i .i64, .b] from by kernel_rfl) (by kernel_rfl) (hval 2 31 v2 rfl rfl) h2
 simp only [CTs, CT.ok] at hc2
 obtain ⟨_, _, rfl, ⟨n2, rfl, _⟩, _, _, rfl, ⟨b2, rfl⟩, rfl⟩ := hc2
 exact law_call (vectors_true x0 y0 z0 n1 n2 b2) ⟨_, _, rfl, rep_vec _ _ _ _, ⟨_, _, rfl, rfl, ⟨_, _, rfl, rep_agg _ _, rfl⟩⟩⟩
end Go.Fw
