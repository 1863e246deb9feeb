/- A part of the proof that the law returns true for every input: an executor for the model's code, and what functions of the program compute. -/
import Derived.Test.YtcafjpldfnegiaaGreatDoorB11
import Derived.Test.YtcafjpldfnegiaaGreatDoorB15
import Derived.Test.YtcafjpldfnegiaaGreatDoorB40
import Derived.Test.YtcafjpldfnegiaaGreatDoorB41
import Derived.Test.YtcafjpldfnegiaaGreatDoorB42
import Derived.KernelRfl
open Go
namespace Go.Fw
set_option maxRecDepth 100000
theorem RSub_r (x y : RN) (hx : x.raw 1000000 = true) (hy : y.raw 1000000 = true) : PCall P 39 [x.c, y.c] (nSub x y).c := by
 have h := rSub_p1 x y hy hx (ofO_raw (by rw [osz_neg]; exact osz_toO hy))
 have e : nAdd x (nNeg y) = nSub x y := by unfold nAdd nSub; rw [toO_nNeg, sub_o]
 rw [e] at h
 exact h
noncomputable def nDot (x y z x' y' z' : RN) : RN := nAdd (nAdd (nMul x x') (nMul y y')) (nMul z z')
theorem raw_mul {x y : RN} {n : Nat} (hx : x.raw n = true) (hy : y.raw n = true) : (nMul x y).raw (n + n + 1) = true := by
 have h1 := osz_toO hx
 have h2 := osz_toO hy
 have h3 := osz_mul (toO x) (toO y)
 exact ofO_raw (by omega)
theorem raw_add {x y : RN} {n : Nat} (hx : x.raw n = true) (hy : y.raw n = true) : (nAdd x y).raw (n + n + 1) = true := by
 have h1 := osz_toO hx
 have h2 := osz_toO hy
 have h3 := osz_add (toO x) (toO y)
 exact ofO_raw (by omega)
theorem raw_sub {x y : RN} {n : Nat} (hx : x.raw n = true) (hy : y.raw n = true) : (nSub x y).raw (n + n + 1) = true := by
 have h1 := osz_toO hx
 have h2 := osz_toO hy
 have h3 := osz_sub (toO x) (toO y)
 exact ofO_raw (by omega)
theorem dot_r (x y z x' y' z' : RN) (h : raw3 1000 x y z = true) (h' : raw3 1000 x' y' z' = true) : PCall P 58 [vecR x y z, vecR x' y' z'] (nDot x y z x' y' z').c := by
 obtain ⟨a, b, c⟩ := raw3_iff.1 h
 obtain ⟨a', b', c'⟩ := raw3_iff.1 h'
 have up : ∀ {x : RN} {n : Nat}, x.raw n = true → n ≤ 1000000 → x.raw 1000000 = true := fun h k => RN.raw_mono h k
 have m1 := raw_mul a a'
 have m2 := raw_mul b b'
 have m3 := raw_mul c c'
 exact dotr_p1 x y z x' y' z' (up a (by decide)) (up a' (by decide)) (up b (by decide)) (up b' (by decide)) (up m1 (by decide)) (up m2 (by decide)) (up c (by decide)) (up c' (by decide)) (up (raw_add m1 m2) (by decide)) (up m3 (by decide))
end Go.Fw
open Go IntKind
namespace Go.Fw
set_option maxRecDepth 100000
theorem L8_p1 (x y z x' y' z' : RN) (k : Int) (h1 : (raw3 12 x y z) = true) (h2 : (raw3 12 x' y' z') = true) (h3 : (rnB (nX x y z (0 : Int) false) x && (rnB (nY x y z (0 : Int) false) y && (rnB (nZ x y z) z && true))) = true) (h4 : (!(rnB (nX x' y' z' (0 : Int) false) x' && (rnB (nY x' y' z' (0 : Int) false) y' && (rnB (nZ x' y' z') z' && true)))) = true) (s16_0 : (Lit.int u8 k).wf = true) (s21_0 : validM (k % 24) = true) (s21_1 : raw3 100000 x y z = true) (s24_0 : validM (k % 24) = true) (s24_1 : raw3 100000 x' y' z' = true) (s31_0 : true = true) (s31_1 : raw3 100000 x y z = true) (s37_0 : true = true) (s37_1 : raw3 100000 x' y' z' = true) : PCall P 8 [vecR x y z, vecR x' y' z', .lit (.int .u8 k)] (.lit (.bool true)) :=
 pcallT (.r 3 (aw_p1) (.r 7 ((few_c (x) (y) (z)).eqB h1) (.r 11 ((few_c (x') (y') (z')).eqB h2) (.r 16 (motT_spec (k) s16_0) (.c (lq 2 2) (.r 21 (WMov_r (x) (y) (z) (k % 24) (decide (k ≥ 128)) s21_0 s21_1) (.r 24 (WMov_r (x') (y') (z') (k % 24) (decide (k ≥ 128)) s24_0 s24_1) (.c (lq 30 30) (.c (lq 30 30) (.r 31 (RMov_r (x) (y) (z) ((0 : Int)) (false) s31_0 s31_1) (.b 34 h3 (.r 37 (RMov_r (x') (y') (z') ((0 : Int)) (false) s37_0 s37_1) (.b 44 h4 .nil))))))))))))) (by kernel_rfl)
theorem L8_p2 (x y z x' y' z' : RN) (k : Int) (h1 : (raw3 12 x y z) = true) (h2 : (raw3 12 x' y' z') = true) (h3 : (rnB (nX x y z (0 : Int) false) x && (rnB (nY x y z (0 : Int) false) y && (rnB (nZ x y z) z && true))) = true) (h4 : (!(rnB (nX x' y' z' (0 : Int) false) x' && (rnB (nY x' y' z' (0 : Int) false) y' && (rnB (nZ x' y' z') z' && true)))) = false) (h5 : decide (k ≥ 128) = true) (h6 : (rnB (nDot (nX x y z (k % 24) (decide (k ≥ 128))) (nY x y z (k % 24) (decide (k ≥ 128))) (nZ x y z) (nX x' y' z' (k % 24) (decide (k ≥ 128))) (nY x' y' z' (k % 24) (decide (k ≥ 128))) (nZ x' y' z')) (nDot x y z x' y' z')) = true) (h7 : (rnB (nZ x y z) z) = true) (s16_0 : (Lit.int u8 k).wf = true) (s21_0 : validM (k % 24) = true) (s21_1 : raw3 100000 x y z = true) (s24_0 : validM (k % 24) = true) (s24_1 : raw3 100000 x' y' z' = true) (s31_0 : true = true) (s31_1 : raw3 100000 x y z = true) (s37_0 : true = true) (s37_1 : raw3 100000 x' y' z' = true) (s49_0 : RN.raw 1000000 x = true) (s49_1 : RN.raw 1000000 y' = true) (s54_0 : RN.raw 1000000 x' = true) (s54_1 : RN.raw 1000000 y = true) (s55_0 : RN.raw 1000000 (nMul x y') = true) (s55_1 : RN.raw 1000000 (nMul x' y) = true) (s62_0 : RN.raw 1000000 (nX x y z (k % 24) (decide (k ≥ 128))) = true) (s62_1 : RN.raw 1000000 (nY x' y' z' (k % 24) (decide (k ≥ 128))) = true) (s67_0 : RN.raw 1000000 (nX x' y' z' (k % 24) (decide (k ≥ 128))) = true) (s67_1 : RN.raw 1000000 (nY x y z (k % 24) (decide (k ≥ 128))) = true) (s68_0 : RN.raw 1000000 (nMul (nX x y z (k % 24) (decide (k ≥ 128))) (nY x' y' z' (k % 24) (decide (k ≥ 128)))) = true) (s68_1 : RN.raw 1000000 (nMul (nX x' y' z' (k % 24) (decide (k ≥ 128))) (nY x y z (k % 24) (decide (k ≥ 128)))) = true) (s75_0 : RN.raw 1000000 (nSub (nMul x y') (nMul x' y)) = true) (s79_0 : raw3 1000 (nX x y z (k % 24) (decide (k ≥ 128))) (nY x y z (k % 24) (decide (k ≥ 128))) (nZ x y z) = true) (s79_1 : raw3 1000 (nX x' y' z' (k % 24) (decide (k ≥ 128))) (nY x' y' z' (k % 24) (decide (k ≥ 128))) (nZ x' y' z') = true) (s82_0 : raw3 1000 x y z = true) (s82_1 : raw3 1000 x' y' z' = true) : PCall P 8 [vecR x y z, vecR x' y' z', .lit (.int .u8 k)] (.lit (.bool (rnB (nSub (nMul (nX x y z (k % 24) (decide (k ≥ 128))) (nY x' y' z' (k % 24) (decide (k ≥ 128)))) (nMul (nX x' y' z' (k % 24) (decide (k ≥ 128))) (nY x y z (k % 24) (decide (k ≥ 128))))) (nNeg (nSub (nMul x y') (nMul x' y)))))) :=
 pcallT (.r 3 (aw_p1) (.r 7 ((few_c (x) (y) (z)).eqB h1) (.r 11 ((few_c (x') (y') (z')).eqB h2) (.r 16 (motT_spec (k) s16_0) (.c (lq 2 2) (.r 21 (WMov_r (x) (y) (z) (k % 24) (decide (k ≥ 128)) s21_0 s21_1) (.r 24 (WMov_r (x') (y') (z') (k % 24) (decide (k ≥ 128)) s24_0 s24_1) (.c (lq 30 30) (.c (lq 30 30) (.r 31 (RMov_r (x) (y) (z) ((0 : Int)) (false) s31_0 s31_1) (.b 34 h3 (.r 37 (RMov_r (x') (y') (z') ((0 : Int)) (false) s37_0 s37_1) (.b 44 h4 (.r 49 (RMul_r (x) (y') s49_0 s49_1) (.r 54 (RMul_r (x') (y) s54_0 s54_1) (.r 55 (RSub_r (nMul x y') (nMul x' y) s55_0 s55_1) (.c (lq 10 10) (.r 62 (RMul_r (nX x y z (k % 24) (decide (k ≥ 128))) (nY x' y' z' (k % 24) (decide (k ≥ 128))) s62_0 s62_1) (.r 67 (RMul_r (nX x' y' z' (k % 24) (decide (k ≥ 128))) (nY x y z (k % 24) (decide (k ≥ 128))) s67_0 s67_1) (.r 68 (RSub_r (nMul (nX x y z (k % 24) (decide (k ≥ 128))) (nY x' y' z' (k % 24) (decide (k ≥ 128)))) (nMul (nX x' y' z' (k % 24) (decide (k ≥ 128))) (nY x y z (k % 24) (decide (k ≥ 128)))) s68_0 s68_1) (.c (lq 10 10) (.b 73 h5 (.r 75 (RNeg_r (nSub (nMul x y') (nMul x' y)) s75_0) (.c (lq 10 10) (.r 79 (dot_r (nX x y z (k % 24) (decide (k ≥ 128))) (nY x y z (k % 24) (decide (k ≥ 128))) (nZ x y z) (nX x' y' z' (k % 24) (decide (k ≥ 128))) (nY x' y' z' (k % 24) (decide (k ≥ 128))) (nZ x' y' z') s79_0 s79_1) (.r 82 (dot_r (x) (y) (z) (x') (y') (z') s82_0 s82_1) (.b 84 h6 (.b 91 h7 .nil)))))))))))))))))))))))))))) (by kernel_rfl)
theorem L8_p5 (x y z x' y' z' : RN) (k : Int) (h1 : (raw3 12 x y z) = true) (h2 : (raw3 12 x' y' z') = true) (h3 : (rnB (nX x y z (0 : Int) false) x && (rnB (nY x y z (0 : Int) false) y && (rnB (nZ x y z) z && true))) = true) (h4 : (!(rnB (nX x' y' z' (0 : Int) false) x' && (rnB (nY x' y' z' (0 : Int) false) y' && (rnB (nZ x' y' z') z' && true)))) = false) (h5 : decide (k ≥ 128) = false) (h6 : (rnB (nDot (nX x y z (k % 24) (decide (k ≥ 128))) (nY x y z (k % 24) (decide (k ≥ 128))) (nZ x y z) (nX x' y' z' (k % 24) (decide (k ≥ 128))) (nY x' y' z' (k % 24) (decide (k ≥ 128))) (nZ x' y' z')) (nDot x y z x' y' z')) = true) (h7 : (rnB (nZ x y z) z) = true) (s16_0 : (Lit.int u8 k).wf = true) (s21_0 : validM (k % 24) = true) (s21_1 : raw3 100000 x y z = true) (s24_0 : validM (k % 24) = true) (s24_1 : raw3 100000 x' y' z' = true) (s31_0 : true = true) (s31_1 : raw3 100000 x y z = true) (s37_0 : true = true) (s37_1 : raw3 100000 x' y' z' = true) (s49_0 : RN.raw 1000000 x = true) (s49_1 : RN.raw 1000000 y' = true) (s54_0 : RN.raw 1000000 x' = true) (s54_1 : RN.raw 1000000 y = true) (s55_0 : RN.raw 1000000 (nMul x y') = true) (s55_1 : RN.raw 1000000 (nMul x' y) = true) (s62_0 : RN.raw 1000000 (nX x y z (k % 24) (decide (k ≥ 128))) = true) (s62_1 : RN.raw 1000000 (nY x' y' z' (k % 24) (decide (k ≥ 128))) = true) (s67_0 : RN.raw 1000000 (nX x' y' z' (k % 24) (decide (k ≥ 128))) = true) (s67_1 : RN.raw 1000000 (nY x y z (k % 24) (decide (k ≥ 128))) = true) (s68_0 : RN.raw 1000000 (nMul (nX x y z (k % 24) (decide (k ≥ 128))) (nY x' y' z' (k % 24) (decide (k ≥ 128)))) = true) (s68_1 : RN.raw 1000000 (nMul (nX x' y' z' (k % 24) (decide (k ≥ 128))) (nY x y z (k % 24) (decide (k ≥ 128)))) = true) (s76_0 : raw3 1000 (nX x y z (k % 24) (decide (k ≥ 128))) (nY x y z (k % 24) (decide (k ≥ 128))) (nZ x y z) = true) (s76_1 : raw3 1000 (nX x' y' z' (k % 24) (decide (k ≥ 128))) (nY x' y' z' (k % 24) (decide (k ≥ 128))) (nZ x' y' z') = true) (s79_0 : raw3 1000 x y z = true) (s79_1 : raw3 1000 x' y' z' = true) : PCall P 8 [vecR x y z, vecR x' y' z', .lit (.int .u8 k)] (.lit (.bool (rnB (nSub (nMul (nX x y z (k % 24) (decide (k ≥ 128))) (nY x' y' z' (k % 24) (decide (k ≥ 128)))) (nMul (nX x' y' z' (k % 24) (decide (k ≥ 128))) (nY x y z (k % 24) (decide (k ≥ 128))))) (nSub (nMul x y') (nMul x' y))))) :=
 pcallT (.r 3 (aw_p1) (.r 7 ((few_c (x) (y) (z)).eqB h1) (.r 11 ((few_c (x') (y') (z')).eqB h2) (.r 16 (motT_spec (k) s16_0) (.c (lq 2 2) (.r 21 (WMov_r (x) (y) (z) (k % 24) (decide (k ≥ 128)) s21_0 s21_1) (.r 24 (WMov_r (x') (y') (z') (k % 24) (decide (k ≥ 128)) s24_0 s24_1) (.c (lq 30 30) (.c (lq 30 30) (.r 31 (RMov_r (x) (y) (z) ((0 : Int)) (false) s31_0 s31_1) (.b 34 h3 (.r 37 (RMov_r (x') (y') (z') ((0 : Int)) (false) s37_0 s37_1) (.b 44 h4 (.r 49 (RMul_r (x) (y') s49_0 s49_1) (.r 54 (RMul_r (x') (y) s54_0 s54_1) (.r 55 (RSub_r (nMul x y') (nMul x' y) s55_0 s55_1) (.c (lq 10 10) (.r 62 (RMul_r (nX x y z (k % 24) (decide (k ≥ 128))) (nY x' y' z' (k % 24) (decide (k ≥ 128))) s62_0 s62_1) (.r 67 (RMul_r (nX x' y' z' (k % 24) (decide (k ≥ 128))) (nY x y z (k % 24) (decide (k ≥ 128))) s67_0 s67_1) (.r 68 (RSub_r (nMul (nX x y z (k % 24) (decide (k ≥ 128))) (nY x' y' z' (k % 24) (decide (k ≥ 128)))) (nMul (nX x' y' z' (k % 24) (decide (k ≥ 128))) (nY x y z (k % 24) (decide (k ≥ 128)))) s68_0 s68_1) (.c (lq 10 10) (.b 73 h5 (.r 76 (dot_r (nX x y z (k % 24) (decide (k ≥ 128))) (nY x y z (k % 24) (decide (k ≥ 128))) (nZ x y z) (nX x' y' z' (k % 24) (decide (k ≥ 128))) (nY x' y' z' (k % 24) (decide (k ≥ 128))) (nZ x' y' z') s76_0 s76_1) (.r 79 (dot_r (x) (y) (z) (x') (y') (z') s79_0 s79_1) (.b 81 h6 (.b 88 h7 .nil)))))))))))))))))))))))))) (by kernel_rfl)
theorem L8_p8 (x y z x' y' z' : RN) (k : Int) (h1 : (raw3 12 x y z) = true) (h2 : (raw3 12 x' y' z') = true) (h3 : (rnB (nX x y z (0 : Int) false) x && (rnB (nY x y z (0 : Int) false) y && (rnB (nZ x y z) z && true))) = false) (s16_0 : (Lit.int u8 k).wf = true) (s21_0 : validM (k % 24) = true) (s21_1 : raw3 100000 x y z = true) (s24_0 : validM (k % 24) = true) (s24_1 : raw3 100000 x' y' z' = true) (s31_0 : true = true) (s31_1 : raw3 100000 x y z = true) : PCall P 8 [vecR x y z, vecR x' y' z', .lit (.int .u8 k)] (.lit (.bool true)) :=
 pcallT (.r 3 (aw_p1) (.r 7 ((few_c (x) (y) (z)).eqB h1) (.r 11 ((few_c (x') (y') (z')).eqB h2) (.r 16 (motT_spec (k) s16_0) (.c (lq 2 2) (.r 21 (WMov_r (x) (y) (z) (k % 24) (decide (k ≥ 128)) s21_0 s21_1) (.r 24 (WMov_r (x') (y') (z') (k % 24) (decide (k ≥ 128)) s24_0 s24_1) (.c (lq 30 30) (.c (lq 30 30) (.r 31 (RMov_r (x) (y) (z) ((0 : Int)) (false) s31_0 s31_1) (.b 34 h3 .nil))))))))))) (by kernel_rfl)
theorem L8_p9 (x y z x' y' z' : RN) (k : Int) (h1 : (raw3 12 x y z) = true) (h2 : (raw3 12 x' y' z') = false) : PCall P 8 [vecR x y z, vecR x' y' z', .lit (.int .u8 k)] (.lit (.bool true)) :=
 pcallT (.r 3 (aw_p1) (.r 7 ((few_c (x) (y) (z)).eqB h1) (.r 11 ((few_c (x') (y') (z')).eqB h2) .nil))) (by kernel_rfl)
theorem L8_p10 (x y z x' y' z' : RN) (k : Int) (h1 : (raw3 12 x y z) = false) : PCall P 8 [vecR x y z, vecR x' y' z', .lit (.int .u8 k)] (.lit (.bool true)) :=
 pcallT (.r 3 (aw_p1) (.r 7 ((few_c (x) (y) (z)).eqB h1) .nil)) (by kernel_rfl)
end Go.Fw
open Go
namespace Go.Fw
set_option maxRecDepth 100000
theorem sz_mvX (x y : K) (t : Int) (b : Bool) (n : Nat) (hx : x.sz ≤ n) (hy : y.sz ≤ n) : (mvX x y t b).sz ≤ 2 * n + 5 ∧ (mvY x y t b).sz ≤ 2 * n + 5 := by
 have c := sz_cos t
 have s := sz_sin t
 have hy' : (if b then -y else y).sz ≤ n := by cases b <;> simp only [Bool.false_eq_true, if_false, if_true, K.sz_neg] <;> exact hy
 have m1 := K.sz_mul x (cosK t)
 have m2 := K.sz_mul (if b then -y else y) (sinK t)
 have m3 := K.sz_mul x (sinK t)
 have m4 := K.sz_mul (if b then -y else y) (cosK t)
 have a1 := K.sz_sub (x * cosK t) ((if b then -y else y) * sinK t)
 have a2 := K.sz_add (x * sinK t) ((if b then -y else y) * cosK t)
 unfold mvX mvY
 omega
theorem raw_X {x y z : RN} {n : Nat} (t : Int) (b : Bool) (h : raw3 n x y z = true) : raw3 (2 * n + 5) (nX x y z t b) (nY x y z t b) (nZ x y z) = true := by
 obtain ⟨hx, hy, hz⟩ := raw3_iff.1 h
 have h1 := osz_toO hx
 have h2 := osz_toO hy
 have h3 := osz_toO hz
 refine raw3_iff.2 ⟨ofO_raw ?_, ofO_raw ?_, ofO_raw ?_⟩
 · cases e1 : toO x <;> cases e2 : toO y <;> cases e3 : toO z <;> first | exact Nat.zero_le _ | skip
   rw [e1] at h1
   rw [e2] at h2
   exact (sz_mvX _ _ t b n h1 h2).1
 · cases e1 : toO x <;> cases e2 : toO y <;> cases e3 : toO z <;> first | exact Nat.zero_le _ | skip
   rw [e1] at h1
   rw [e2] at h2
   exact (sz_mvX _ _ t b n h1 h2).2
 · cases e1 : toO x <;> cases e2 : toO y <;> cases e3 : toO z <;> first | exact Nat.zero_le _ | skip
   rw [e3] at h3
   exact Nat.le_trans h3 (by omega)
theorem raw3_mono {x y z : RN} {n m : Nat} (h : raw3 n x y z = true) (hm : n ≤ m) : raw3 m x y z = true := by
 obtain ⟨hx, hy, hz⟩ := raw3_iff.1 h
 exact raw3_iff.2 ⟨RN.raw_mono hx hm, RN.raw_mono hy hm, RN.raw_mono hz hm⟩
theorem k_dot (x y x' y' c s : K) (e : c * c + s * s = 1) : (x * c - y * s) * (x' * c - y' * s) + (x * s + y * c) * (x' * s + y' * c) = x * x' + y * y' := by
 have h : (x * c - y * s) * (x' * c - y' * s) + (x * s + y * c) * (x' * s + y' * c) = (x * x' + y * y') * (c * c + s * s) :=
  (show ∀ ρ : Nat → K, (ρ 0 * ρ 4 - ρ 1 * ρ 5) * (ρ 2 * ρ 4 - ρ 3 * ρ 5) + (ρ 0 * ρ 5 + ρ 1 * ρ 4) * (ρ 2 * ρ 5 + ρ 3 * ρ 4) = (ρ 0 * ρ 2 + ρ 1 * ρ 3) * (ρ 4 * ρ 4 + ρ 5 * ρ 5) from fun ρ => CR.ring ρ rfl) (CR.vr [x, y, x', y', c, s])
 rw [h, e, K.mul_one]
theorem k_area (x y x' y' c s : K) (e : c * c + s * s = 1) : (x * c - y * s) * (x' * s + y' * c) - (x' * c - y' * s) * (x * s + y * c) = x * y' - x' * y := by
 have h : (x * c - y * s) * (x' * s + y' * c) - (x' * c - y' * s) * (x * s + y * c) = (x * y' - x' * y) * (c * c + s * s) :=
  (show ∀ ρ : Nat → K, (ρ 0 * ρ 4 - ρ 1 * ρ 5) * (ρ 2 * ρ 5 + ρ 3 * ρ 4) - (ρ 2 * ρ 4 - ρ 3 * ρ 5) * (ρ 0 * ρ 5 + ρ 1 * ρ 4) = (ρ 0 * ρ 3 - ρ 2 * ρ 1) * (ρ 4 * ρ 4 + ρ 5 * ρ 5) from fun ρ => CR.ring ρ rfl) (CR.vr [x, y, x', y', c, s])
 rw [h, e, K.mul_one]
theorem k_nn (x y : K) : -x * -y = x * y := (show ∀ ρ : Nat → K, -ρ 0 * -ρ 1 = ρ 0 * ρ 1 from fun ρ => CR.ring ρ rfl) (CR.vr [x, y])
theorem k_na (x y x' y' : K) : x * -y' - x' * -y = -(x * y' - x' * y) := (show ∀ ρ : Nat → K, ρ 0 * -ρ 3 - ρ 2 * -ρ 1 = -(ρ 0 * ρ 3 - ρ 2 * ρ 1) from fun ρ => CR.ring ρ rfl) (CR.vr [x, y, x', y'])
theorem mv_dot (x y x' y' : K) (t : Int) (b : Bool) : mvX x y t b * mvX x' y' t b + mvY x y t b * mvY x' y' t b = x * x' + y * y' := by
 unfold mvX mvY
 rw [k_dot _ _ _ _ _ _ (cos_sin_one t)]
 cases b
 · rfl
 · simp only [if_true]; rw [k_nn]
theorem mv_area (x y x' y' : K) (t : Int) (b : Bool) : mvX x y t b * mvY x' y' t b - mvX x' y' t b * mvY x y t b = if b then -(x * y' - x' * y) else x * y' - x' * y := by
 unfold mvX mvY
 rw [k_area _ _ _ _ _ _ (cos_sin_one t)]
 cases b
 · rfl
 · simp only [if_true]; rw [k_na]
def Coh (x y z : Option K) : Prop := (x = none ∧ y = none ∧ z = none) ∨ ∃ a b c, x = some a ∧ y = some b ∧ z = some c
theorem coh_of {x y z : RN} (h : (rnB (nX x y z (0 : Int) false) x && (rnB (nY x y z (0 : Int) false) y && (rnB (nZ x y z) z && true))) = true) : Coh (toO x) (toO y) (toO z) ∧ nZ x y z = z := by
 obtain ⟨h1, h⟩ := (Bool.and_eq_true _ _).mp h
 obtain ⟨h2, h⟩ := (Bool.and_eq_true _ _).mp h
 obtain ⟨h3, _⟩ := (Bool.and_eq_true _ _).mp h
 replace h1 := rnB_iff.1 h1
 replace h2 := rnB_iff.1 h2
 replace h3 := rnB_iff.1 h3
 refine ⟨?_, h3⟩
 have e1 : toO x = oX (toO x) (toO y) (toO z) 0 false := (congrArg toO h1).symm.trans (toO_ofO _)
 have e2 : toO y = oY (toO x) (toO y) (toO z) 0 false := (congrArg toO h2).symm.trans (toO_ofO _)
 have e3 : toO z = oZ (toO x) (toO y) (toO z) := (congrArg toO h3).symm.trans (toO_ofO _)
 cases ex : toO x with
 | none => rw [ex] at e2 e3; exact .inl ⟨rfl, e2, e3⟩
 | some a =>
  cases ey : toO y with
  | none => rw [ex, ey] at e1; cases e1
  | some b =>
   cases ez : toO z with
   | none => rw [ex, ey, ez] at e1; cases e1
   | some c => exact .inr ⟨a, b, c, rfl, rfl, rfl⟩
theorem rn_eq {x y : RN} (h : x = y) : rnB x y = true := rnB_iff.2 h
theorem len_dot (x y z x' y' z' : RN) (t : Int) (b : Bool) (h : Coh (toO x) (toO y) (toO z)) (h' : Coh (toO x') (toO y') (toO z')) :
    nDot (nX x y z t b) (nY x y z t b) (nZ x y z) (nX x' y' z' t b) (nY x' y' z' t b) (nZ x' y' z') = nDot x y z x' y' z' := by
 unfold nDot nX nY nZ nMul nAdd
 simp only [toO_ofO]
 congr 1
 rcases h with ⟨e1, e2, e3⟩ | ⟨a, l, c, e1, e2, e3⟩ <;> rcases h' with ⟨f1, f2, f3⟩ | ⟨a', l', c', f1, f2, f3⟩ <;> rw [e1, e2, e3, f1, f2, f3] <;> first | rfl | skip
 show some _ = some _
 rw [mv_dot]
theorem len_area (x y z x' y' z' : RN) (t : Int) (b : Bool) (h : Coh (toO x) (toO y) (toO z)) (h' : Coh (toO x') (toO y') (toO z')) :
    nSub (nMul (nX x y z t b) (nY x' y' z' t b)) (nMul (nX x' y' z' t b) (nY x y z t b)) = if b then nNeg (nSub (nMul x y') (nMul x' y)) else nSub (nMul x y') (nMul x' y) := by
 have key : nSub (nMul (nX x y z t b) (nY x' y' z' t b)) (nMul (nX x' y' z' t b) (nY x y z t b)) = ofO (if b then oNeg (oSub (oMul (toO x) (toO y')) (oMul (toO x') (toO y))) else oSub (oMul (toO x) (toO y')) (oMul (toO x') (toO y))) := by
  unfold nX nY nMul nSub
  simp only [toO_ofO]
  congr 1
  rcases h with ⟨e1, e2, e3⟩ | ⟨a, l, c, e1, e2, e3⟩ <;> rcases h' with ⟨f1, f2, f3⟩ | ⟨a', l', c', f1, f2, f3⟩ <;> rw [e1, e2, e3, f1, f2, f3] <;> first | (cases b <;> rfl) | skip
  show some _ = _
  rw [mv_area]
  cases b <;> rfl
 rw [key]
 cases b
 · simp only [Bool.false_eq_true, if_false]
   unfold nSub nMul
   simp only [toO_ofO]
 · simp only [if_true]
   unfold nNeg nSub nMul
   simp only [toO_ofO]
theorem lengths_true (x y z x' y' z' : RN) (k : Int) (hk : (Lit.int .u8 k).wf = true) : PCall P 8 [vecR x y z, vecR x' y' z', .lit (.int .u8 k)] (.lit (.bool true)) := by
 have ht : validM (k % 24) = true := validM_iff.2 (by omega)
 cases g1 : raw3 12 x y z
 · exact L8_p10 x y z x' y' z' k g1
 cases g2 : raw3 12 x' y' z'
 · exact L8_p9 x y z x' y' z' k g1 g2
 have r1 := raw3_mono g1 (show 12 ≤ 100000 by decide)
 have r2 := raw3_mono g2 (show 12 ≤ 100000 by decide)
 cases h3 : (rnB (nX x y z (0 : Int) false) x && (rnB (nY x y z (0 : Int) false) y && (rnB (nZ x y z) z && true)))
 · exact L8_p8 x y z x' y' z' k g1 g2 h3 hk ht r1 ht r2 rfl r1
 cases h4 : (rnB (nX x' y' z' (0 : Int) false) x' && (rnB (nY x' y' z' (0 : Int) false) y' && (rnB (nZ x' y' z') z' && true)))
 · exact L8_p1 x y z x' y' z' k g1 g2 h3 (by rw [h4]; rfl) hk ht r1 ht r2 rfl r1 rfl r2
 obtain ⟨c1, z1⟩ := coh_of h3
 obtain ⟨c2, z2⟩ := coh_of h4
 have h4' : (!(rnB (nX x' y' z' (0 : Int) false) x' && (rnB (nY x' y' z' (0 : Int) false) y' && (rnB (nZ x' y' z') z' && true)))) = false := by rw [h4]; rfl
 have hd := rn_eq (len_dot x y z x' y' z' (k % 24) (decide (k ≥ 128)) c1 c2)
 have ha := len_area x y z x' y' z' (k % 24) (decide (k ≥ 128)) c1 c2
 have v1 := raw_X (k % 24) (decide (k ≥ 128)) g1
 have v2 := raw_X (k % 24) (decide (k ≥ 128)) g2
 obtain ⟨a1, a2, a3⟩ := raw3_iff.1 g1
 obtain ⟨b1, b2, b3⟩ := raw3_iff.1 g2
 obtain ⟨p1, p2, p3⟩ := raw3_iff.1 v1
 obtain ⟨q1, q2, q3⟩ := raw3_iff.1 v2
 have up : ∀ {x : RN} {n : Nat}, x.raw n = true → n ≤ 1000000 → x.raw 1000000 = true := fun h k => RN.raw_mono h k
 have m1 := raw_mul a1 b2
 have m2 := raw_mul b1 a2
 have m3 := raw_mul p1 q2
 have m4 := raw_mul q1 p2
 have v1' := raw3_mono v1 (show 2 * 12 + 5 ≤ 1000 by decide)
 have v2' := raw3_mono v2 (show 2 * 12 + 5 ≤ 1000 by decide)
 have d1 := raw3_mono g1 (show 12 ≤ 1000 by decide)
 have d2 := raw3_mono g2 (show 12 ≤ 1000 by decide)
 cases h5 : decide (k ≥ (128 : Int))
 · refine (L8_p5 x y z x' y' z' k g1 g2 h3 h4' h5 hd (rn_eq z1) hk ht r1 ht r2 rfl r1 rfl r2 (up a1 (by decide)) (up b2 (by decide)) (up b1 (by decide)) (up a2 (by decide)) (up m1 (by decide)) (up m2 (by decide)) (up p1 (by decide)) (up q2 (by decide)) (up q1 (by decide)) (up p2 (by decide))
     (up m3 (by decide)) (up m4 (by decide)) v1' v2' d1 d2).eqB ?_
   rw [ha, h5]
   exact rn_eq rfl
 · refine (L8_p2 x y z x' y' z' k g1 g2 h3 h4' h5 hd (rn_eq z1) hk ht r1 ht r2 rfl r1 rfl r2 (up a1 (by decide)) (up b2 (by decide)) (up b1 (by decide)) (up a2 (by decide)) (up m1 (by decide)) (up m2 (by decide)) (up p1 (by decide)) (up q2 (by decide)) (up q1 (by decide)) (up p2 (by decide))
     (up m3 (by decide)) (up m4 (by decide)) (up (raw_sub m1 m2) (by decide)) v1' v2' d1 d2).eqB ?_
   rw [ha, h5]
   exact rn_eq rfl
end Go.Fw
open Go Go.Proofs Go.Proofs.YtcafjpldfnegiaaGreatDoor
namespace Go.Fw
set_option maxRecDepth 100000
def RN.v (x : RN) : List Value := [.bool x.b0, .string x.s0, .bool x.b1, .string x.s1, .bool x.b2, .string x.s2, .bool x.b3, .string x.s3, .bool x.b4, .string x.s4]
abbrev vecK : List CT := [.b, .s, .b, .s, .b, .s, .b, .s, .b, .s, .b, .s, .b, .s, .b, .s, .b, .s, .b, .s, .b, .s, .b, .s, .b, .s, .b, .s, .b, .s]
theorem num_open {ts : List CT} {l : List Value} (h : CTs (.b :: .s :: .b :: .s :: .b :: .s :: .b :: .s :: .b :: .s :: ts) l) : ∃ (x : RN) (m : List Value), l = x.v ++ m ∧ CTs ts m := by
 simp only [CTs, CT.ok] at h
 obtain ⟨_, _, rfl, ⟨b0, rfl⟩, _, _, rfl, ⟨s0, rfl⟩, _, _, rfl, ⟨b1, rfl⟩, _, _, rfl, ⟨s1, rfl⟩, _, _, rfl, ⟨b2, rfl⟩, _, _, rfl, ⟨s2, rfl⟩, _, _, rfl, ⟨b3, rfl⟩, _, _, rfl, ⟨s3, rfl⟩, _, _, rfl, ⟨b4, rfl⟩, _, m, rfl, ⟨s4, rfl⟩, hm⟩ := h
 exact ⟨⟨b0, s0, b1, s1, b2, s2, b3, s3, b4, s4⟩, m, rfl, hm⟩
theorem vec_open {ts : List CT} {l : List Value} (h : CTs (vecK ++ ts) l) : ∃ (x y z : RN) (m : List Value), l = x.v ++ (y.v ++ (z.v ++ m)) ∧ CTs ts m := by
 obtain ⟨x, m1, rfl, h1⟩ := num_open h
 obtain ⟨y, m2, rfl, h2⟩ := num_open h1
 obtain ⟨z, m3, rfl, h3⟩ := num_open h2
 exact ⟨x, y, z, m3, rfl, h3⟩
theorem vec_open' {l : List Value} (h : CTs vecK l) : ∃ x y z : RN, l = x.v ++ (y.v ++ z.v) := by
 obtain ⟨x, y, z, m, rfl, h4⟩ := vec_open (ts := []) h
 obtain rfl : m = [] := h4
 exact ⟨x, y, z, by simp⟩
theorem vecT : flatTy Tryz.prog 8 51 = some vecK := by kernel_rfl
theorem rep_vec (I : Imm) (x y z : RN) : CV.rep I (vecR x y z) (.agg (x.v ++ (y.v ++ z.v)).toArray) := rep_agg I (x.v ++ (y.v ++ z.v))
end Go.Fw
open Go Go.Proofs Go.Proofs.YtcafjpldfnegiaaGreatDoor
namespace Go.Fw
open Go.ChangeShapes Go.WideShapes Go.ChangeAt Go.RowKit
set_option maxRecDepth 100000
theorem lawCall8 {H : Type} {enc : TypeId × Value → H} (W : World) (base : Nat) (args : Array Value) (ds gs : List (DataW H)) (before : List MemPlace)
    (hval : ∀ (j : Nat) t v, Tryz.f8.params[j]? = some t → args[j]? = some v → Value.okWide Tryz.prog W .any base t v)
    (hW : DataW.Whole enc Tryz.prog Tryz.f8.params.toList Rows.wheelLengthsSpec.vars false W args.toList ds gs before) :
    Calls Tryz.prog 8 args W fun e W' => e = .returned (.bool true) ∧ Below W.heap.size W W' := by
 obtain ⟨p, q, hA, hV, _, _, _⟩ := hW
 rw [Tryz.params8] at hA hval
 obtain ⟨v0, vs0, d0, ds0, p0, q0, ha0, hd0, _, h0, r0⟩ := trodAll_cons hA
 obtain ⟨v1, vs1, d1, ds1, p1, q1, ha1, hd1, _, h1, r1⟩ := trodAll_cons r0
 obtain ⟨v2, vs2, d2, ds2, p2, q2, ha2, hd2, _, h2, r2⟩ := trodAll_cons r1
 obtain ⟨hz, hzd, _⟩ := trodAll_nil r2
 subst hz ha2 ha1
 obtain rfl : args = #[v0, v1, v2] := by cases args; simp_all
 obtain ⟨cs0, rfl, hc0⟩ := open_flat 8 vecT (by kernel_rfl) (hval 0 51 v0 rfl rfl) h0
 obtain ⟨x0, y0, z0, rfl⟩ := vec_open' hc0
 obtain ⟨cs1, rfl, hc1⟩ := open_flat 8 vecT (by kernel_rfl) (hval 1 51 v1 rfl rfl) h1
 obtain ⟨x1, y1, z1, rfl⟩ := vec_open' hc1
 obtain ⟨n2, rfl, _, _, hw2⟩ := open_int Tryz.underlying5 (hval 2 5 v2 rfl rfl) h2
 exact law_call (lengths_true x0 y0 z0 x1 y1 z1 n2 hw2) ⟨_, _, rfl, rep_vec _ _ _ _, ⟨_, _, rfl, rep_vec _ _ _ _, ⟨_, _, rfl, rfl, rfl⟩⟩⟩
end Go.Fw
