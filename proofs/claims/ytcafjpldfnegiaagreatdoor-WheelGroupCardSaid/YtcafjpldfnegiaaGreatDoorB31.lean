/- A part of the proof that the law returns true for every input: an executor for the model's code, and what functions of the program compute. -/
import Derived.Test.YtcafjpldfnegiaaGreatDoorB11
import Derived.Test.YtcafjpldfnegiaaGreatDoorB15
import Derived.Test.YtcafjpldfnegiaaGreatDoorB28
import Derived.Test.YtcafjpldfnegiaaGreatDoorB30
import Derived.KernelRfl
open Go Go.ChangeMaps
namespace Go.Fw
set_option maxRecDepth 100000
def q190 (a n2 n3 n6 : Int) : K := K.ofInt a + (K.ofInt n2 * K.r2 + K.ofInt n3 * K.r3 + K.ofInt n6 * K.r6)
theorem number_spec (a n2 n3 n6 d : Int) (ha : a.natAbs < 256) (h2 : n2.natAbs < 256) (h3 : n3.natAbs < 256) (h6 : n6.natAbs < 256) (hd : d.natAbs < 256) (hd0 : K.ofInt d ≠ 0) :
    PCall P 190 [ci64 a, ci64 n2, ci64 n3, ci64 n6, ci64 d] (numC (K.div (q190 a n2 n3 n6) (K.ofInt d))) := by
 have hsz : ∀ v : Int, v.natAbs < 256 → (K.ofInt v).sz ≤ 1 := fun v hv => K.sz_int v (Nat.le_refl _) (by omega)
 have z1 : CvL ZN := CvL.map_cv (List.replicate 5 [CV.lit (.bool false), CV.lit (.string ⟨#[]⟩)]).flatten
 have z2 : CvL (MV.cv (numC (K.ofInt a))).cells := CvL.map_cv _
 have c1 : PCall P 144 [ci64 a] (numC (K.ofInt a)) := FOf_spec a (by omega)
 have c2 : PCall P 144 [ci64 d] (numC (K.ofInt d)) := FOf_spec d (by omega)
 have sm := fun (v : Int) (w : K) (hv : v.natAbs < 256) (hw : w.sz ≤ 1) => Nat.le_trans (K.sz_mul (K.ofInt v) w) (Nat.add_le_add_right (Nat.add_le_add (hsz v hv) hw) 1)
 have t2 := sm n2 K.r2 h2 (show K.r2.sz ≤ 1 by decide)
 have t3 := sm n3 K.r3 h3 (show K.r3.sz ≤ 1 by decide)
 have t6 := sm n6 K.r6 h6 (show K.r6.sz ≤ 1 by decide)
 have u1 := K.sz_add (K.ofInt n2 * K.r2) (K.ofInt n3 * K.r3)
 have u2 := K.sz_add (K.ofInt n2 * K.r2 + K.ofInt n3 * K.r3) (K.ofInt n6 * K.r6)
 have u3 := K.sz_add (K.ofInt a) (K.ofInt n2 * K.r2 + K.ofInt n3 * K.r3 + K.ofInt n6 * K.r6)
 have ua := hsz a ha
 have ud := hsz d hd
 have hs : (q190 a n2 n3 n6).sz ≤ 100 := by unfold q190; omega
 have c3 : PCall P 147 [numC (q190 a n2 n3 n6), numC (K.ofInt d)] (.tup [numC (K.div (q190 a n2 n3 n6) (K.ofInt d)), ci64 0]) := FDiv_K _ _ hd0 (by omega)
 refine pcallQ_of_ok (todo := [.code body190]) (s := ⟨([ci64 a, ci64 n2, ci64 n3, ci64 n6, ci64 d].map .cv) ++ List.replicate 37 undefM, []⟩) (rs := _) rfl ?_
 rw [body190_eq]
 refine Ok.step ?_ (fun b a cs w => step_seq)
 refine Ok.regS (s' := ⟨(([ci64 a, ci64 n2, ci64 n3, ci64 n6, ci64 d].map MV.cv) ++ List.replicate 5 .unk ++ [.ptr 0 0] ++ List.replicate 31 .unk), [some ZN]⟩) (ors := []) [0, 1, 2, 3, 4, 10] [0] (by kernel_rfl) rfl (.cons z1 .nil) rfl ?_
 refine Ok.step ?_ (fun b a cs w => step_seq)
 refine Ok.regS (s' := ⟨tmN a n2 n3 n6 d .unk .unk .unk .unk, hpN (K.ofInt a)⟩) (ors := [(1, .r (numC (K.ofInt a)))]) [0, 1, 2, 3, 4, 10, 11] [0, 2] (by kernel_rfl) rfl (.cons c1 (.cons (show 10 ≤ 10 by decide) (.cons z1 (.cons z2 .nil)))) rfl ?_
 refine Ok.step ?_ (fun b a cs w => step_seq)
 refine Ok.step ?_ (fun b a cs w => step_seq)
 refine reg2_ok rfl (fun r => ?_)
 refine OkX.step ?_ (fun b a cs w => step_block)
 refine OkX.step ?_ (fun b a cs w => step_loop)
 refine loop190_ok (tot := q190 a n2 n3 n6) rfl h2 h3 h6 ?_ 3 #[] (K.ofInt a) r (by simp [leftOf, es190]) (by simp [rest190, q190]) (by omega)
 exact okR (ors := [(2, .r (numC (K.ofInt d))), (3, .r (.tup [numC (K.div (q190 a n2 n3 n6) (K.ofInt d)), ci64 0]))]) (by kernel_rfl) (.cons c2 (.cons c3 (.cons (show 10 ≤ 10 by decide) (.cons (show 10 ≤ 10 by decide) .nil)))) rfl
end Go.Fw
open Go
namespace Go.Fw
set_option maxRecDepth 100000
def cos6 (i : Nat) : K :=
 match i with
 | 0 => ⟨1, 0, 0, 0, 1, by decide, by decide⟩
 | 1 => ⟨0, 1, 0, 1, 4, by decide, by decide⟩
 | 2 => ⟨0, 0, 1, 0, 2, by decide, by decide⟩
 | 3 => ⟨0, 1, 0, 0, 2, by decide, by decide⟩
 | 4 => ⟨1, 0, 0, 0, 2, by decide, by decide⟩
 | 5 => ⟨0, -1, 0, 1, 4, by decide, by decide⟩
 | _ => ⟨0, 0, 0, 0, 1, by decide, by decide⟩
theorem kq (x y : K) (h0 : x.c0 = y.c0) (h1 : x.c1 = y.c1) (h2 : x.c2 = y.c2) (h3 : x.c3 = y.c3) (h4 : x.d = y.d) : numC x = numC y := n5C_eq h0 h1 h2 h3 h4
theorem quart {i a b c e d : Int} {v : CV} (h : PCall P 190 [ci64 a, ci64 b, ci64 c, ci64 e, ci64 d] v) (hi : 0 ≤ i ∧ i < 7)
    (hrun : runF P 122 [ci64 i] [(26, .r v)] false 100000 = .ret v [35 ≤ 35, 0 ≤ i ∧ i < 7, 5 ≤ 5, (0 : Int) ≤ 0 ∧ (0 : Int) < 5, (0 : Int) ≤ 1 ∧ (1 : Int) < 5, (0 : Int) ≤ 2 ∧ (2 : Int) < 5, (0 : Int) ≤ 3 ∧ (3 : Int) < 5, (0 : Int) ≤ 4 ∧ (4 : Int) < 5, PCall P 190 [ci64 a, ci64 b, ci64 c, ci64 e, ci64 d] v, 10 ≤ 10]) : PCall P 122 [ci64 i] v :=
 pcallR hrun (.cons (by decide) (.cons hi (.cons (by decide) (.cons (by decide) (.cons (by decide) (.cons (by decide) (.cons (by decide) (.cons (by decide) (.cons h (.cons (by decide) .nil))))))))))
theorem quarter_0 : PCall P 122 [ci64 0] (numC (cos6 0)) := quart ((number_spec (1) (0) (0) (0) (1) (by decide) (by decide) (by decide) (by decide) (by decide) (by decide)).eq (kq _ (cos6 0) (by decide) (by decide) (by decide) (by decide) (by decide))) (by decide) (by kernel_rfl)
theorem quarter_1 : PCall P 122 [ci64 1] (numC (cos6 1)) := quart ((number_spec (0) (1) (0) (1) (4) (by decide) (by decide) (by decide) (by decide) (by decide) (by decide)).eq (kq _ (cos6 1) (by decide) (by decide) (by decide) (by decide) (by decide))) (by decide) (by kernel_rfl)
theorem quarter_2 : PCall P 122 [ci64 2] (numC (cos6 2)) := quart ((number_spec (0) (0) (1) (0) (2) (by decide) (by decide) (by decide) (by decide) (by decide) (by decide)).eq (kq _ (cos6 2) (by decide) (by decide) (by decide) (by decide) (by decide))) (by decide) (by kernel_rfl)
theorem quarter_3 : PCall P 122 [ci64 3] (numC (cos6 3)) := quart ((number_spec (0) (1) (0) (0) (2) (by decide) (by decide) (by decide) (by decide) (by decide) (by decide)).eq (kq _ (cos6 3) (by decide) (by decide) (by decide) (by decide) (by decide))) (by decide) (by kernel_rfl)
theorem quarter_4 : PCall P 122 [ci64 4] (numC (cos6 4)) := quart ((number_spec (1) (0) (0) (0) (2) (by decide) (by decide) (by decide) (by decide) (by decide) (by decide)).eq (kq _ (cos6 4) (by decide) (by decide) (by decide) (by decide) (by decide))) (by decide) (by kernel_rfl)
theorem quarter_5 : PCall P 122 [ci64 5] (numC (cos6 5)) := quart ((number_spec (0) (-1) (0) (1) (4) (by decide) (by decide) (by decide) (by decide) (by decide) (by decide)).eq (kq _ (cos6 5) (by decide) (by decide) (by decide) (by decide) (by decide))) (by decide) (by kernel_rfl)
theorem quarter_6 : PCall P 122 [ci64 6] (numC (cos6 6)) := quart ((number_spec (0) (0) (0) (0) (1) (by decide) (by decide) (by decide) (by decide) (by decide) (by decide)).eq (kq _ (cos6 6) (by decide) (by decide) (by decide) (by decide) (by decide))) (by decide) (by kernel_rfl)
theorem quarter_spec (i : Int) (h : 0 ≤ i ∧ i < 7) : PCall P 122 [ci64 i] (numC (cos6 i.toNat)) := by
 have hc : i = 0 ∨ i = 1 ∨ i = 2 ∨ i = 3 ∨ i = 4 ∨ i = 5 ∨ i = 6 := by omega
 rcases hc with rfl | rfl | rfl | rfl | rfl | rfl | rfl
 · exact quarter_0
 · exact quarter_1
 · exact quarter_2
 · exact quarter_3
 · exact quarter_4
 · exact quarter_5
 · exact quarter_6
end Go.Fw
open Go IntKind
namespace Go.Fw
set_option maxRecDepth 100000
theorem WMod_p1 (i : Int) (h1 : decide (i.tmod 24 < 0) = true) : PCall P 31 [ci64 i] (.lit (.int .i64 (i64.wrap (i.tmod 24 + 24)))) :=
 pcallT (.c (nz 24) (.b 6 h1 .nil)) (by kernel_rfl)
theorem WMod_p2 (i : Int) (h1 : decide (i.tmod 24 < 0) = false) : PCall P 31 [ci64 i] (.lit (.int .i64 (i.tmod 24))) :=
 pcallT (.c (nz 24) (.b 6 h1 .nil)) (by kernel_rfl)
end Go.Fw
open Go
namespace Go.Fw
theorem mod24 (i : Int) : (decide (i.tmod 24 < 0) = true → IntKind.i64.wrap (i.tmod 24 + 24) = i % 24) ∧ (decide (i.tmod 24 < 0) = false → i.tmod 24 = i % 24) ∧ (IntKind.i64.wrap (i.tmod 24 + 24)).tmod 24 = i % 24 := by
 have e := Int.mul_tdiv_add_tmod i 24
 have b1 := Int.tmod_lt_of_pos i (show (0 : Int) < 24 by decide)
 have b2 := Int.lt_tmod_of_pos i (show (0 : Int) < 24 by decide)
 generalize i.tmod 24 = t at e b1 b2 ⊢
 generalize i.tdiv 24 = q at e
 rw [w64 (by omega), Int.tmod_eq_emod_of_nonneg (by omega)]
 simp only [decide_eq_true_eq, decide_eq_false_iff_not]
 omega
theorem WMod_spec (i : Int) : PCall P 31 [ci64 i] (ci64 (i % 24)) := by
 cases h : decide (i.tmod 24 < 0) with
 | true => exact (WMod_p1 i h).eq (congrArg (fun x => ci64 x) ((mod24 i).1 h))
 | false => exact (WMod_p2 i h).eq (congrArg (fun x => ci64 x) ((mod24 i).2.1 h))
end Go.Fw
open Go IntKind
namespace Go.Fw
set_option maxRecDepth 100000
theorem WCos_p1 (i : Int) (h1 : decide (i % 24 > 12) = true) (h2 : decide (i64.wrap ((24 : Int) - i % 24) > 6) = true) (s15_0 : (0 : Int) ≤ i64.wrap ((12 : Int) - i64.wrap ((24 : Int) - i % 24)) ∧ i64.wrap ((12 : Int) - i64.wrap ((24 : Int) - i % 24)) < 7) (s16_0 : Smk (cos6 (i64.wrap ((12 : Int) - i64.wrap ((24 : Int) - i % 24))).toNat)) : PCall P 33 [ci64 i] (numC (-cos6 (i64.wrap ((12 : Int) - i64.wrap ((24 : Int) - i % 24))).toNat)) :=
 pcallT (.r 2 (WMod_spec (i)) (.b 6 h1 (.b 12 h2 (.r 15 (quarter_spec (i64.wrap ((12 : Int) - i64.wrap ((24 : Int) - i % 24))) s15_0) (.r 16 (FNeg_K (cos6 (i64.wrap ((12 : Int) - i64.wrap ((24 : Int) - i % 24))).toNat) s16_0) (.c (lq 10 10) .nil)))))) (by kernel_rfl)
theorem WCos_p2 (i : Int) (h1 : decide (i % 24 > 12) = true) (h2 : decide (i64.wrap ((24 : Int) - i % 24) > 6) = false) (s14_0 : (0 : Int) ≤ i64.wrap ((24 : Int) - i % 24) ∧ i64.wrap ((24 : Int) - i % 24) < 7) : PCall P 33 [ci64 i] (numC (cos6 (i64.wrap ((24 : Int) - i % 24)).toNat)) :=
 pcallT (.r 2 (WMod_spec (i)) (.b 6 h1 (.b 12 h2 (.r 14 (quarter_spec (i64.wrap ((24 : Int) - i % 24)) s14_0) (.c (lq 10 10) .nil))))) (by kernel_rfl)
theorem WCos_p3 (i : Int) (h1 : decide (i % 24 > 12) = false) (h2 : decide (i % 24 > 6) = true) (s12_0 : (0 : Int) ≤ i64.wrap ((12 : Int) - i % 24) ∧ i64.wrap ((12 : Int) - i % 24) < 7) (s13_0 : Smk (cos6 (i64.wrap ((12 : Int) - i % 24)).toNat)) : PCall P 33 [ci64 i] (numC (-cos6 (i64.wrap ((12 : Int) - i % 24)).toNat)) :=
 pcallT (.r 2 (WMod_spec (i)) (.b 6 h1 (.b 9 h2 (.r 12 (quarter_spec (i64.wrap ((12 : Int) - i % 24)) s12_0) (.r 13 (FNeg_K (cos6 (i64.wrap ((12 : Int) - i % 24)).toNat) s13_0) (.c (lq 10 10) .nil)))))) (by kernel_rfl)
theorem WCos_p4 (i : Int) (h1 : decide (i % 24 > 12) = false) (h2 : decide (i % 24 > 6) = false) (s11_0 : (0 : Int) ≤ i % 24 ∧ i % 24 < 7) : PCall P 33 [ci64 i] (numC (cos6 (i % 24).toNat)) :=
 pcallT (.r 2 (WMod_spec (i)) (.b 6 h1 (.b 9 h2 (.r 11 (quarter_spec (i % 24) s11_0) (.c (lq 10 10) .nil))))) (by kernel_rfl)
end Go.Fw
open Go IntKind
namespace Go.Fw
set_option maxRecDepth 100000
theorem WValid_p1 (t : Int) (b : Bool) (h1 : decide (t ≥ 0) = true) : PCall P 55 [.agg [ci64 t, .lit (.bool b)]] (.lit (.bool (decide (t < 24)))) :=
 pcallT (.b 5 h1 .nil) (by kernel_rfl)
theorem WValid_p2 (t : Int) (b : Bool) (h1 : decide (t ≥ 0) = false) : PCall P 55 [.agg [ci64 t, .lit (.bool b)]] (.lit (.bool false)) :=
 pcallT (.b 5 h1 .nil) (by kernel_rfl)
theorem Wturned_p1 (t : Int) (b : Bool) (h1 : (b) = true) : PCall P 133 [ci64 t, .lit (.bool b)] (.lit (.int .i64 (i64.wrap ((0 : Int) - t % 24)))) :=
 pcallT (.b 2 h1 (.r 4 (WMod_spec (t)) .nil)) (by kernel_rfl)
theorem Wturned_p2 (t : Int) (b : Bool) (h1 : (b) = false) : PCall P 133 [ci64 t, .lit (.bool b)] (.lit (.int .i64 (t % 24))) :=
 pcallT (.b 2 h1 (.r 4 (WMod_spec (t)) .nil)) (by kernel_rfl)
end Go.Fw
open Go
namespace Go.Fw
def cosK (i : Int) : K :=
 let j := i % 24
 let k := if j > 12 then 24 - j else j
 if k > 6 then -cos6 (12 - k).toNat else cos6 k.toNat
def sinK (i : Int) : K := cosK (i % 24 - 6)
theorem sz_cos6 (n : Nat) : Smk (cos6 n) := by
 match n with
 | 0 => decide
 | 1 => decide
 | 2 => decide
 | 3 => decide
 | 4 => decide
 | 5 => decide
 | _ + 6 => exact (by decide : Smk (cos6 6))
theorem WCos_spec (i : Int) : PCall P 33 [ci64 i] (numC (cosK i)) := by
 have e1 : IntKind.i64.wrap (24 - i % 24) = 24 - i % 24 := w64 (by omega)
 have e2 : IntKind.i64.wrap (12 - i % 24) = 12 - i % 24 := w64 (by omega)
 have e3 : IntKind.i64.wrap (12 - (24 - i % 24)) = 12 - (24 - i % 24) := w64 (by omega)
 cases h1 : decide (i % 24 > 12) with
 | true =>
  have h1' := of_decide_eq_true h1
  cases h2 : decide (24 - i % 24 > 6) with
  | true =>
   have h2' := of_decide_eq_true h2
   refine (WCos_p1 i h1 (by rw [e1]; exact h2) (by rw [e1, e3]; omega) (sz_cos6 _)).eq ?_
   rw [e1, e3]; simp only [cosK, if_pos h1', if_pos h2']
  | false =>
   have h2' := of_decide_eq_false h2
   refine (WCos_p2 i h1 (by rw [e1]; exact h2) (by rw [e1]; omega)).eq ?_
   rw [e1]; simp only [cosK, if_pos h1', if_neg h2']
 | false =>
  have h1' := of_decide_eq_false h1
  cases h2 : decide (i % 24 > 6) with
  | true =>
   have h2' := of_decide_eq_true h2
   refine (WCos_p3 i h1 h2 (by rw [e2]; omega) (sz_cos6 _)).eq ?_
   rw [e2]; simp only [cosK, if_neg h1', if_pos h2']
  | false =>
   have h2' := of_decide_eq_false h2
   refine (WCos_p4 i h1 h2 (by omega)).eq ?_
   simp only [cosK, if_neg h1', if_neg h2']
def validM (t : Int) : Bool := decide (0 ≤ t ∧ t < 24)
theorem validM_eq (t : Int) : (decide (t ≥ 0) = true → decide (t < 24) = validM t) ∧ (decide (t ≥ 0) = false → false = validM t) := by
 unfold validM
 refine ⟨fun h => ?_, fun h => ?_⟩
 · have := of_decide_eq_true h
   exact decide_eq_decide.2 (by omega)
 · have := of_decide_eq_false h
   exact (decide_eq_false (by omega)).symm
theorem WValid_spec (t : Int) (b : Bool) : PCall P 55 [.agg [ci64 t, .lit (.bool b)]] (.lit (.bool (validM t))) := by
 cases h : decide (t ≥ 0) with
 | true => exact (WValid_p1 t b h).eqB ((validM_eq t).1 h)
 | false => exact (WValid_p2 t b h).eqB ((validM_eq t).2 h)
def turned (t : Int) (b : Bool) : Int := if b then -(t % 24) else t % 24
theorem Wturned_spec (t : Int) (b : Bool) : PCall P 133 [ci64 t, .lit (.bool b)] (ci64 (turned t b)) := by
 cases b with
 | true => exact (Wturned_p1 t true rfl).eq (by rw [w64 (by omega)]; simp [turned])
 | false => exact Wturned_p2 t false rfl
end Go.Fw
open Go
namespace Go.Fw
set_option maxRecDepth 100000
theorem Sm3.of {x : K} (h : x.c0.natAbs < 256 ∧ x.c1.natAbs < 256 ∧ x.c2.natAbs < 256 ∧ x.c3.natAbs < 256 ∧ x.d.natAbs < 256) : Sm3 x := by
 intro i hi
 have k : (256 : Nat) ≤ 256 ^ 3 := by decide
 have : i = 0 ∨ i = 1 ∨ i = 2 ∨ i = 3 ∨ i = 4 := by omega
 rcases this with rfl | rfl | rfl | rfl | rfl
 · exact Nat.lt_of_lt_of_le h.1 k
 · exact Nat.lt_of_lt_of_le h.2.1 k
 · exact Nat.lt_of_lt_of_le h.2.2.1 k
 · exact Nat.lt_of_lt_of_le h.2.2.2.1 k
 · exact Nat.lt_of_lt_of_le h.2.2.2.2 k
end Go.Fw
open Go
namespace Go.Fw
set_option maxRecDepth 100000
theorem pS0 : PCall P 183 [.agg [.lit (.bool false), cstr (bytesOf 0)]] (ci64 0) := RSign_spec 0
theorem pS1 : PCall P 183 [.agg [.lit (.bool false), cstr (bytesOf 1)]] (ci64 1) := RSign_spec 1
theorem pG : PCall P 184 [.agg [.lit (.bool false), cstr (bytesOf 1)], .agg [.lit (.bool false), cstr (bytesOf 4)]] (.agg [.lit (.bool false), cstr (bytesOf 1)]) := RGcd_s 1 4 (by decide) (by decide)
theorem pA : PCall P 186 [.agg [.lit (.bool false), cstr (bytesOf 1)]] (.agg [.lit (.bool false), cstr (bytesOf 1)]) := RAbs_spec 1
theorem pO1 : PCall P 185 [.agg [.lit (.bool false), cstr (bytesOf 1)], .agg [.lit (.bool false), cstr (bytesOf 1)]] (.agg [.lit (.bool false), cstr (bytesOf 1)]) := ROver_s 1 1 (by decide) (by decide) (by decide) (by decide)
theorem pO4 : PCall P 185 [.agg [.lit (.bool false), cstr (bytesOf 4)], .agg [.lit (.bool false), cstr (bytesOf 1)]] (.agg [.lit (.bool false), cstr (bytesOf 4)]) := ROver_s 4 1 (by decide) (by decide) (by decide) (by decide)
theorem pOne : PCall P 131 [ci64 1] (.agg [.lit (.bool false), cstr (bytesOf 1)]) := ROf_spec 1 (by decide)
theorem pP4 : PCall P 187 [.agg [.lit (.bool false), cstr (bytesOf 4)]] (cstr ⟨#[52]⟩) := RPr4_p1
theorem pP1 : PCall P 187 [.agg [.lit (.bool false), cstr (bytesOf 1)]] (cstr ⟨#[49]⟩) := RPr1_p1
theorem k1ok : Sm3 (cos6 1) := by
 intro i hi
 have : i = 0 ∨ i = 1 ∨ i = 2 ∨ i = 3 ∨ i = 4 := by omega
 rcases this with rfl | rfl | rfl | rfl | rfl <;> decide
theorem pV : PCall P 124 [n5C 0 1 0 1 4] (.lit (.bool true)) := RVal_k (cos6 1) k1ok
end Go.Fw
open Go IntKind
namespace Go.Fw
set_option maxRecDepth 100000
theorem pR1_p1 : PCall P 188 [ci64 1] (.lit (.string { data := #[(114 : UInt8), (50 : UInt8)] })) :=
 pcallT (.c (bq 1 4) .nil) (by kernel_rfl)
theorem pR3_p1 : PCall P 188 [ci64 3] (.lit (.string { data := #[(114 : UInt8), (54 : UInt8)] })) :=
 pcallT (.c (bq 3 4) .nil) (by kernel_rfl)
end Go.Fw
open Go IntKind
namespace Go.Fw
set_option maxRecDepth 100000
theorem pPr_p1 : PCall P 120 [n5C (0 : Int) (1 : Int) (0 : Int) (1 : Int) (4 : Int)] (.lit (.string ({ data := #[] } ++ { data := #[(49 : UInt8)] } ++ ({ data := #[(47 : UInt8)] } ++ { data := #[(52 : UInt8)] }) ++ { data := #[(114 : UInt8), (50 : UInt8)] } ++ { data := #[(43 : UInt8)] } ++ { data := #[(49 : UInt8)] } ++ ({ data := #[(47 : UInt8)] } ++ { data := #[(52 : UInt8)] }) ++ { data := #[(114 : UInt8), (54 : UInt8)] }))) :=
 pcallT (.r 3 (pV) (.c (bq 0 4) (.c (lq 2 2) (.r 19 (pS0) (.c (bq 1 4) (.c (lq 2 2) (.r 36 (pS1) (.r 42 (pG) (.c (lq 2 2) (.r 46 (pA) (.r 48 (pO1) (.r 52 (pO4) (.c (lq 2 2) (.c (lq 2 2) (.r 58 (pS1) (.r 66 (pOne) (.c (lq 2 2) (.r 84 (pP1) (.c (show (1 : Int) ≤ 9223372036854775807 from by decide) (.r 93 (pP4) (.c (show (2 : Int) ≤ 9223372036854775807 from by decide) (.c (show (3 : Int) ≤ 9223372036854775807 from by decide) (.r 99 (pR1_p1) (.c (show (5 : Int) ≤ 9223372036854775807 from by decide) (.c (bq 2 4) (.c (lq 2 2) (.r 116 (pS0) (.c (bq 3 4) (.c (lq 2 2) (.r 133 (pS1) (.r 139 (pG) (.c (lq 2 2) (.r 143 (pA) (.r 145 (pO1) (.r 149 (pO4) (.c (lq 2 2) (.c (lq 2 2) (.r 155 (pS1) (.c (show (6 : Int) ≤ 9223372036854775807 from by decide) (.r 166 (pOne) (.c (lq 2 2) (.r 184 (pP1) (.c (show (7 : Int) ≤ 9223372036854775807 from by decide) (.r 193 (pP4) (.c (show (2 : Int) ≤ 9223372036854775807 from by decide) (.c (show (9 : Int) ≤ 9223372036854775807 from by decide) (.r 199 (pR3_p1) (.c (show (11 : Int) ≤ 9223372036854775807 from by decide) .nil)))))))))))))))))))))))))))))))))))))))))))))))) (by kernel_rfl)
end Go.Fw
open Go IntKind
namespace Go.Fw
set_option maxRecDepth 100000
theorem WSin_p1 (i : Int) : PCall P 35 [ci64 i] (numC (cosK (i64.wrap (i % 24 - 6)))) :=
 pcallT (.r 2 (WMod_spec (i)) (.r 4 (WCos_spec (i64.wrap (i % 24 - 6))) (.c (lq 10 10) .nil))) (by kernel_rfl)
theorem WIndex_p1 (t : Int) (b : Bool) (i : Int) (h1 : (validM t) = true) : PCall P 42 [.agg [ci64 t, .lit (.bool b)], ci64 i] (.lit (.int .i64 (i64.wrap (turned i b + t) % 24))) :=
 pcallT (.r 3 ((WValid_spec (t) (b)).eqB h1) (.r 9 (Wturned_spec (i) (b)) (.r 13 (WMod_spec (i64.wrap (turned i b + t))) .nil))) (by kernel_rfl)
theorem WIndex_p2 (t : Int) (b : Bool) (i : Int) (h1 : (validM t) = false) : PCall P 42 [.agg [ci64 t, .lit (.bool b)], ci64 i] (.lit (.int .i64 0)) :=
 pcallT (.r 3 ((WValid_spec (t) (b)).eqB h1) .nil) (by kernel_rfl)
theorem WInv_p1 (t : Int) (b : Bool) (h1 : (validM t) = true) (h2 : (b) = true) : PCall P 46 [.agg [ci64 t, .lit (.bool b)]] (.agg [.lit (.int .i64 t), .lit (.bool b)]) :=
 pcallT (.r 3 ((WValid_spec (t) (b)).eqB h1) (.b 10 h2 (.c (lq 2 2) .nil))) (by kernel_rfl)
theorem WInv_p2 (t : Int) (b : Bool) (h1 : (validM t) = true) (h2 : (b) = false) : PCall P 46 [.agg [ci64 t, .lit (.bool b)]] (.agg [.lit (.int .i64 (i64.wrap ((0 : Int) - t) % 24)), .lit (.bool false)]) :=
 pcallT (.r 3 ((WValid_spec (t) (b)).eqB h1) (.b 10 h2 (.r 14 (WMod_spec (i64.wrap ((0 : Int) - t))) (.c (lq 2 2) .nil)))) (by kernel_rfl)
theorem WInv_p3 (t : Int) (b : Bool) (h1 : (validM t) = false) : PCall P 46 [.agg [ci64 t, .lit (.bool b)]] (.agg [.lit (.int .i64 0), .lit (.bool false)]) :=
 pcallT (.r 3 ((WValid_spec (t) (b)).eqB h1) (.c (lq 2 2) .nil)) (by kernel_rfl)
theorem WComp_p1 (t : Int) (b : Bool) (t' : Int) (b' : Bool) (h1 : (validM t) = true) (h2 : (validM t') = true) : PCall P 44 [.agg [ci64 t, .lit (.bool b)], .agg [ci64 t', .lit (.bool b')]] (.agg [.lit (.int .i64 (i64.wrap (turned t b' + t') % 24)), .lit (.bool !b == b')]) :=
 pcallT (.r 4 ((WValid_spec (t) (b)).eqB h1) (.r 8 ((WValid_spec (t') (b')).eqB h2) (.r 16 (Wturned_spec (t) (b')) (.r 20 (WMod_spec (i64.wrap (turned t b' + t'))) (.c (lq 2 2) .nil))))) (by kernel_rfl)
theorem WComp_p2 (t : Int) (b : Bool) (t' : Int) (b' : Bool) (h1 : (validM t) = true) (h2 : (validM t') = false) : PCall P 44 [.agg [ci64 t, .lit (.bool b)], .agg [ci64 t', .lit (.bool b')]] (.agg [.lit (.int .i64 0), .lit (.bool false)]) :=
 pcallT (.r 4 ((WValid_spec (t) (b)).eqB h1) (.r 8 ((WValid_spec (t') (b')).eqB h2) (.c (lq 2 2) .nil))) (by kernel_rfl)
theorem WComp_p3 (t : Int) (b : Bool) (t' : Int) (b' : Bool) (h1 : (validM t) = false) : PCall P 44 [.agg [ci64 t, .lit (.bool b)], .agg [ci64 t', .lit (.bool b')]] (.agg [.lit (.int .i64 0), .lit (.bool false)]) :=
 pcallT (.r 4 ((WValid_spec (t) (b)).eqB h1) (.c (lq 2 2) .nil)) (by kernel_rfl)
end Go.Fw
open Go
namespace Go.Fw
theorem WSin_spec (i : Int) : PCall P 35 [ci64 i] (numC (sinK i)) := (WSin_p1 i).eq (by rw [w64 (by omega)]; rfl)
theorem validM_iff {t : Int} : validM t = true ↔ 0 ≤ t ∧ t < 24 := by unfold validM; exact decide_eq_true_iff
def idxM (t : Int) (b : Bool) (i : Int) : Int := if validM t then (turned i b + t) % 24 else 0
theorem turned_bd (i : Int) (b : Bool) : -24 < turned i b ∧ turned i b < 24 := by unfold turned; split <;> omega
theorem WIndex_spec (t : Int) (b : Bool) (i : Int) : PCall P 42 [.agg [ci64 t, .lit (.bool b)], ci64 i] (ci64 (idxM t b i)) := by
 cases h : validM t with
 | true =>
  have := validM_iff.1 h
  have := turned_bd i b
  exact (WIndex_p1 t b i h).eq (by rw [w64 (by omega)]; simp only [idxM, h, if_true])
 | false => exact (WIndex_p2 t b i h).eq (by simp [idxM, h])
def invM (t : Int) (b : Bool) : Int × Bool := if validM t then (if b then (t, true) else ((-t) % 24, false)) else (0, false)
theorem WInv_spec (t : Int) (b : Bool) : PCall P 46 [.agg [ci64 t, .lit (.bool b)]] (.agg [ci64 (invM t b).1, .lit (.bool (invM t b).2)]) := by
 cases h : validM t with
 | true =>
  have := validM_iff.1 h
  cases b with
  | true => exact (WInv_p1 t true h rfl).eq (by simp [invM, h])
  | false => exact (WInv_p2 t false h rfl).eq (by rw [w64 (by omega)]; simp [invM, h])
 | false => exact (WInv_p3 t b h).eq (by simp [invM, h])
def compM (t : Int) (b : Bool) (t' : Int) (b' : Bool) : Int × Bool := if validM t && validM t' then ((turned t b' + t') % 24, b != b') else (0, false)
theorem WComp_spec (t : Int) (b : Bool) (t' : Int) (b' : Bool) : PCall P 44 [.agg [ci64 t, .lit (.bool b)], .agg [ci64 t', .lit (.bool b')]] (.agg [ci64 (compM t b t' b').1, .lit (.bool (compM t b t' b').2)]) := by
 cases h : validM t with
 | true =>
  cases h' : validM t' with
  | true =>
   have := validM_iff.1 h'
   have := turned_bd t b'
   exact (WComp_p1 t b t' b' h h').eq (by rw [w64 (by omega)]; simp only [compM, h, h', Bool.and_self, if_true]; cases b <;> cases b' <;> rfl)
  | false => exact (WComp_p2 t b t' b' h h').eq (by simp [compM, h, h'])
 | false => exact (WComp_p3 t b t' b' h).eq (by simp [compM, h])
end Go.Fw
open Go IntKind
namespace Go.Fw
set_option maxRecDepth 100000
theorem WMot_p4 (o : Int) (b : Bool) (h1 : decide (o < 1) = false) (h2 : decide (o > 24) = false) (h3 : (Int.tmod 24 o != 0) = false) (h4 : (!b) = true) (o2 : o ≠ 0) {R : CV → Prop} (hR : Ok P 26 (loopHead P 26 0) ⟨mkTm 49 [(0, .cv (.lit (.int .i64 o))), (7, .cv (CV.lit (Value.slice none 0 0))), (27, .sl 0 0 1 1), (28, .cv (.lit (.int .i64 1))), (29, .cv (.lit (.int .i64 0)))], [some [.cv (.lit (.bool false)), .cv (.lit (.bool true))]]⟩ (.of R)) : PCallQ P 26 [ci64 o, .lit (.bool b)] R :=
 pcallST (keep := [0, 7, 27, 28, 29]) (σ := [0]) (.b 4 h1 (.b 8 h2 (.c o2 (.b 13 h3 (.b 18 h4 (.c (show (0 : Int) ≤ 0 ∧ (0 : Int) ≤ 1 ∧ (1 : Int) ≤ 2 ∧ ((0 : Int) = 0 ∨ (0 : Int) < 1) from by decide) (.o 26 .stop .nil))))))) (by kernel_rfl) rfl hR (.cons (by simp [CvL]) .nil)
theorem WMot_p5 (o : Int) (b : Bool) (h1 : decide (o < 1) = false) (h2 : decide (o > 24) = false) (h3 : (Int.tmod 24 o != 0) = false) (h4 : (!b) = false) (o2 : o ≠ 0) {R : CV → Prop} (hR : Ok P 26 (loopHead P 26 0) ⟨mkTm 49 [(0, .cv (.lit (.int .i64 o))), (7, .cv (CV.lit (Value.slice none 0 0))), (27, .sl 0 0 2 1), (28, .cv (.lit (.int .i64 2))), (29, .cv (.lit (.int .i64 0)))], [some [.cv (.lit (.bool false)), .cv (.lit (.bool true))]]⟩ (.of R)) : PCallQ P 26 [ci64 o, .lit (.bool b)] R :=
 pcallST (keep := [0, 7, 27, 28, 29]) (σ := [0]) (.b 4 h1 (.b 8 h2 (.c o2 (.b 13 h3 (.b 18 h4 (.o 23 .stop .nil)))))) (by kernel_rfl) rfl hR (.cons (by simp [CvL]) .nil)
end Go.Fw
open Go IntKind
namespace Go.Fw
set_option maxRecDepth 100000
theorem WMA_p1 (o n : Int) (m : Nat) (h1 : decide ((0 : Int) < n) = true) (o1 : (0 : Int) ≤ 0 ∧ (0 : Int) < m) {R : Goal} (hn : lentOk R.n [0] = true) (hR : Ok P 26 (loopHead P 26 1) ⟨mkTm 49 [(0, .cv (.lit (.int .i64 o))), (7, .cv (CV.lit (Value.slice none 0 0))), (9, .cv (.lit (.bool false))), (27, .sl 0 0 m 1), (28, .cv (.lit (.int .i64 n))), (29, .cv (.lit (.int .i64 0))), (33, .cv (.lit (.int .i64 o))), (34, .cv (.lit (.int .i64 0)))], [some [.cv (.lit (.bool false)), .cv (.lit (.bool true))]]⟩ R) : Ok P 26 (loopHead P 26 0) ⟨mkTm 49 [(0, .cv (ci64 o)), (7, .cv (CV.lit (Value.slice none 0 0))), (27, .sl 0 0 m 1), (28, .cv (ci64 n)), (29, .cv (ci64 0))], [some [.cv (.lit (.bool false)), .cv (.lit (.bool true))]]⟩ R :=
 okST (keep := [0, 7, 9, 27, 28, 29, 33, 34]) (σ := [0]) (.b 2 h1 (.c o1 (.o 8 .stop .nil))) (by kernel_rfl) rfl hn hR (.cons (by simp [CvL]) .nil)
theorem WMB_p1 (o n j : Int) (m : Nat) (f : Bool) (h1 : decide ((0 : Int) < o) = true) (o1 : o ≠ 0) {R : Goal} (hn : lentOk R.n [2, 0] = true) (hR : Ok P 26 (loopHead P 26 1) ⟨mkTm 49 [(0, .cv (.lit (.int .i64 o))), (7, .sl 0 0 1 2), (9, .cv (.lit (.bool f))), (27, .sl (0 + 1) 0 m 1), (28, .cv (.lit (.int .i64 n))), (29, .cv (.lit (.int .i64 j))), (33, .cv (.lit (.int .i64 o))), (34, .cv (.lit (.int .i64 1)))], [some [.cv (.lit (.int .i64 (i64.wrap (Int.tdiv 0 o)))), .cv (.lit (.bool f))], some [.cv (.lit (.bool false)), .cv (.lit (.bool true))]]⟩ R) : Ok P 26 (loopHead P 26 1) ⟨mkTm 49 [(0, .cv (ci64 o)), (7, .cv (CV.lit (Value.slice none 0 0))), (9, .cv (.lit (.bool f))), (27, .sl 0 0 m 1), (28, .cv (ci64 n)), (29, .cv (ci64 j)), (33, .cv (ci64 o)), (34, .cv (ci64 0))], [some [.cv (.lit (.bool false)), .cv (.lit (.bool true))]]⟩ R :=
 okST (keep := [0, 7, 9, 27, 28, 29, 33, 34]) (σ := [2, 0]) (.b 2 h1 (.c o1 (.c (lq 16 1099511627776) (.c (lq 1 1099511627776) (.c (show 0 < 1 from by decide) (.c (eqn 2) (.o 17 .stop .nil))))))) (by kernel_rfl) rfl hn hR (.cons (by simp [CvL]) (.cons (by simp [CvL]) .nil))
theorem WMC_p1 (o n j k : Int) (m c : Nat) (f : Bool) (cells : List CV) (h1 : decide (k < o) = true) (o1 : o ≠ 0) (o2 : (c + 1) * 16 ≤ 1099511627776) (o3 : c + 1 ≤ 1099511627776) (o4 : (own cells).length = c * 2) (o5 : OneL [.cv (.lit (.int .i64 (i64.wrap ((i64.wrap (k * 24)).tdiv o)))), .cv (.lit (.bool f))]) (o7 : CvL (own cells ++ [.cv (.lit (.int .i64 (i64.wrap ((i64.wrap (k * 24)).tdiv o)))), .cv (.lit (.bool f))])) {R : Goal} (hn : lentOk R.n [3, 1] = true) (hR : Ok P 26 (loopHead P 26 1) ⟨mkTm 49 [(0, .cv (.lit (.int .i64 o))), (7, .sl 0 0 (c + 1) 2), (9, .cv (.lit (.bool f))), (27, .sl (0 + 1) 0 m 1), (28, .cv (.lit (.int .i64 n))), (29, .cv (.lit (.int .i64 j))), (33, .cv (.lit (.int .i64 o))), (34, .cv (.lit (.int .i64 (i64.wrap (k + 1)))))], [some (own cells ++ [.cv (.lit (.int .i64 (i64.wrap ((i64.wrap (k * 24)).tdiv o)))), .cv (.lit (.bool f))]), some [.cv (.lit (.bool false)), .cv (.lit (.bool true))]]⟩ R) : Ok P 26 (loopHead P 26 1) ⟨mkTm 49 [(0, .cv (ci64 o)), (7, .sl 0 0 c 2), (9, .cv (.lit (.bool f))), (27, .sl 1 0 m 1), (28, .cv (ci64 n)), (29, .cv (ci64 j)), (33, .cv (ci64 o)), (34, .cv (ci64 k))], [some (own cells), some [.cv (.lit (.bool false)), .cv (.lit (.bool true))]]⟩ R :=
 okST (keep := [0, 7, 9, 27, 28, 29, 33, 34]) (σ := [3, 1]) (.b 2 h1 (.c o1 (.c o2 (.c o3 (.c o4 (.c o5 (.c (eqn 2) (.o 17 .stop .nil)))))))) (by kernel_rfl) rfl hn hR (.cons o7 (.cons (by simp [CvL]) .nil))
theorem WMC_p2 (o n j k : Int) (m c : Nat) (f : Bool) (cells : List CV) (h1 : decide (k < o) = false) (o1 : CvL (own cells)) {R : Goal} (hn : lentOk R.n [0, 1] = true) (hR : Ok P 26 (loopHead P 26 0) ⟨mkTm 49 [(0, .cv (.lit (.int .i64 o))), (7, .sl 0 0 c 2), (27, .sl (0 + 1) 0 m 1), (28, .cv (.lit (.int .i64 n))), (29, .cv (.lit (.int .i64 (i64.wrap (j + 1)))))], [some (own cells), some [.cv (.lit (.bool false)), .cv (.lit (.bool true))]]⟩ R) : Ok P 26 (loopHead P 26 1) ⟨mkTm 49 [(0, .cv (ci64 o)), (7, .sl 0 0 c 2), (9, .cv (.lit (.bool f))), (27, .sl 1 0 m 1), (28, .cv (ci64 n)), (29, .cv (ci64 j)), (33, .cv (ci64 o)), (34, .cv (ci64 k))], [some (own cells), some [.cv (.lit (.bool false)), .cv (.lit (.bool true))]]⟩ R :=
 okST (keep := [0, 7, 27, 28, 29]) (σ := [0, 1]) (.b 2 h1 (.o 5 .stop .nil)) (by kernel_rfl) rfl hn hR (.cons o1 (.cons (by simp [CvL]) .nil))
theorem WMD_p1 (o n : Int) (m c : Nat) (cells : List CV) (h1 : decide ((1 : Int) < n) = true) (o1 : (0 : Int) ≤ 1 ∧ (1 : Int) < m) (o2 : CvL (own cells)) {R : Goal} (hn : lentOk R.n [0, 1] = true) (hR : Ok P 26 (loopHead P 26 1) ⟨mkTm 49 [(0, .cv (.lit (.int .i64 o))), (7, .sl 0 0 c 2), (9, .cv (.lit (.bool true))), (27, .sl (0 + 1) 0 m 1), (28, .cv (.lit (.int .i64 n))), (29, .cv (.lit (.int .i64 1))), (33, .cv (.lit (.int .i64 o))), (34, .cv (.lit (.int .i64 0)))], [some (own cells), some [.cv (.lit (.bool false)), .cv (.lit (.bool true))]]⟩ R) : Ok P 26 (loopHead P 26 0) ⟨mkTm 49 [(0, .cv (ci64 o)), (7, .sl 0 0 c 2), (27, .sl 1 0 m 1), (28, .cv (ci64 n)), (29, .cv (ci64 1))], [some (own cells), some [.cv (.lit (.bool false)), .cv (.lit (.bool true))]]⟩ R :=
 okST (keep := [0, 7, 9, 27, 28, 29, 33, 34]) (σ := [0, 1]) (.b 2 h1 (.c o1 (.o 8 .stop .nil))) (by kernel_rfl) rfl hn hR (.cons o2 (.cons (by simp [CvL]) .nil))
theorem WMD_p2 (o n : Int) (m c : Nat) (cells : List CV) (h1 : decide ((1 : Int) < n) = false) (o1 : List.take (c * 2) (List.drop 0 (own cells)) = List.map MV.cv cells) {R : Goal} (hR : R.c (.tup [.lst c cells, .lit (.int .i64 0)])) : Ok P 26 (loopHead P 26 0) ⟨mkTm 49 [(0, .cv (ci64 o)), (7, .sl 0 0 c 2), (27, .sl 1 0 m 1), (28, .cv (ci64 n)), (29, .cv (ci64 1))], [some (own cells), some [.cv (.lit (.bool false)), .cv (.lit (.bool true))]]⟩ R :=
 okT (.b 2 h1 (.c o1 (.o 6 (.r (CV.lit undef) [cells]) .nil))) (by kernel_rfl) hR
theorem WME_p1 (o n j : Int) (h : decide (j < n) = false) (m c : Nat) (cells : List CV) (o1 : List.take (c * 2) (List.drop 0 (own cells)) = List.map MV.cv cells) {R : Goal} (hR : R.c (.tup [.lst c cells, .lit (.int .i64 0)])) : Ok P 26 (loopHead P 26 0) ⟨mkTm 49 [(0, .cv (ci64 o)), (7, .sl 0 0 c 2), (27, .sl 1 0 m 1), (28, .cv (ci64 n)), (29, .cv (ci64 j))], [some (own cells), some [.cv (.lit (.bool false)), .cv (.lit (.bool true))]]⟩ R :=
 okT (.b 2 h (.c o1 (.o 6 (.r (CV.lit undef) [cells]) .nil))) (by kernel_rfl) hR
end Go.Fw
open Go
namespace Go.Fw
def motL (o : Int) (f : Bool) : Nat → List CV
 | 0 => []
 | k + 1 => motL o f k ++ [ci64 (k * (24 / o)), .lit (.bool f)]
theorem motL_length (o : Int) (f : Bool) : ∀ k, (motL o f k).length = k * 2
 | 0 => rfl
 | k + 1 => by simp [motL, motL_length o f k]; omega
def okO (o : Int) : Prop := 1 ≤ o ∧ o ≤ 24 ∧ 24 % o = 0
theorem okO_cases {o : Int} (h : okO o) : o = 1 ∨ o = 2 ∨ o = 3 ∨ o = 4 ∨ o = 6 ∨ o = 8 ∨ o = 12 ∨ o = 24 := by
 obtain ⟨h1, h2, h3⟩ := h
 have : o = 1 ∨ o = 2 ∨ o = 3 ∨ o = 4 ∨ o = 5 ∨ o = 6 ∨ o = 7 ∨ o = 8 ∨ o = 9 ∨ o = 10 ∨ o = 11 ∨ o = 12 ∨ o = 13 ∨ o = 14 ∨ o = 15 ∨ o = 16 ∨ o = 17 ∨ o = 18 ∨ o = 19 ∨ o = 20 ∨ o = 21 ∨ o = 22 ∨ o = 23 ∨ o = 24 := by omega
 rcases this with rfl | rfl | rfl | rfl | rfl | rfl | rfl | rfl | rfl | rfl | rfl | rfl | rfl | rfl | rfl | rfl | rfl | rfl | rfl | rfl | rfl | rfl | rfl | rfl <;> revert h3 <;> decide
theorem step24 {o : Int} (h : okO o) (k : Nat) (hk : (k : Int) < o) : IntKind.i64.wrap ((IntKind.i64.wrap (k * 24)).tdiv o) = k * (24 / o) ∧ IntKind.i64.wrap (k * IntKind.i64.wrap (Int.tdiv 24 o)) = k * (24 / o) := by
 have b : 0 ≤ 24 / o ∧ 24 / o ≤ 24 := by rcases okO_cases h with rfl | rfl | rfl | rfl | rfl | rfl | rfl | rfl <;> decide
 rw [w64 (n := k * 24) (by have := h.2.1; omega), Int.tdiv_eq_ediv_of_nonneg (by omega), Int.tdiv_eq_ediv_of_nonneg (by omega), w64 (n := 24 / o) (by omega)]
 rcases okO_cases h with rfl | rfl | rfl | rfl | rfl | rfl | rfl | rfl
 all_goals
  simp only [Int.reduceDiv]
  refine ⟨?_, ?_⟩
  · rw [w64 (by omega)]; omega
  · rw [w64 (by omega)]
def cellsM (o : Int) (b : Bool) : List CV := motL o false o.toNat ++ (if b then motL o true o.toNat else [])
def cntM (o : Int) (b : Bool) : Nat := if b then o.toNat + o.toNat else o.toNat
theorem CvL.own (l : List CV) : CvL (own l) := CvL.map_cv l
theorem own_app (a b : List CV) : own (a ++ b) = own a ++ own b := by simp [own]
theorem WM_inner {R : Goal} {o n j : Int} {m : Nat} {f : Bool} (ho : okO o) (pre : List CV) (c0 : Nat) (hc : c0 ≤ 24) (hp : pre.length = c0 * 2) (hn : R.n = 0) (hj : -1000 < j ∧ j < 1000)
    (hR : Ok P 26 (loopHead P 26 0) ⟨mkTm 49 [(0, .cv (ci64 o)), (7, .sl 0 0 (c0 + o.toNat) 2), (27, .sl 1 0 m 1), (28, .cv (ci64 n)), (29, .cv (ci64 (j + 1)))], [some (own (pre ++ motL o f o.toNat)), some [.cv (.lit (.bool false)), .cv (.lit (.bool true))]]⟩ R) :
    ∀ (d k : Nat), k + d = o.toNat → Ok P 26 (loopHead P 26 1) ⟨mkTm 49 [(0, .cv (ci64 o)), (7, .sl 0 0 (c0 + k) 2), (9, .cv (.lit (.bool f))), (27, .sl 1 0 m 1), (28, .cv (ci64 n)), (29, .cv (ci64 j)), (33, .cv (ci64 o)), (34, .cv (ci64 k))], [some (own (pre ++ motL o f k)), some [.cv (.lit (.bool false)), .cv (.lit (.bool true))]]⟩ R
 | 0, k, hk => by
  have h1 := ho.1
  have e : k = o.toNat := by omega
  subst e
  refine WMC_p2 o n j _ m _ f _ (decide_eq_false (by omega)) (CvL.own _) (by rw [hn]; rfl) ?_
  rw [w64 (by omega)]
  exact hR
 | d + 1, k, hk => by
  have h1 := ho.1
  have h2 := ho.2.1
  have e := (step24 ho k (by omega)).1
  refine WMC_p1 o n j _ m _ f _ (decide_eq_true (by omega)) (by omega) (by omega) (by omega) (by simp [own, motL_length, hp]; omega) (by intro m hm; simp only [List.mem_cons, List.not_mem_nil, or_false] at hm; rcases hm with rfl | rfl <;> rfl) ?_ (by rw [hn]; rfl) ?_
  · show CvL (own (pre ++ motL o f k) ++ own [ci64 _, .lit (.bool f)])
    rw [← own_app]; exact CvL.own _
  · rw [e, w64 (by omega)]
    have := WM_inner ho pre c0 hc hp hn hj hR d (k + 1) (by omega)
    rw [show pre ++ motL o f (k + 1) = pre ++ motL o f k ++ [ci64 (k * (24 / o)), .lit (.bool f)] by simp [motL], own_app] at this
    exact this
def motsV (o : Int) (b : Bool) : CV := .lst (cntM o b) (cellsM o b)
theorem WM_mid {R : Goal} {o n j : Int} {m : Nat} (ho : okO o) (hn : R.n = 0) (f : Bool) (hf : f = false) (hj : j = 0)
    (hR : Ok P 26 (loopHead P 26 0) ⟨mkTm 49 [(0, .cv (ci64 o)), (7, .sl 0 0 o.toNat 2), (27, .sl 1 0 m 1), (28, .cv (ci64 n)), (29, .cv (ci64 1))], [some (own (motL o false o.toNat)), some [.cv (.lit (.bool false)), .cv (.lit (.bool true))]]⟩ R) :
    Ok P 26 (loopHead P 26 1) ⟨mkTm 49 [(0, .cv (ci64 o)), (7, .cv (.lit (.slice none 0 0))), (9, .cv (.lit (.bool f))), (27, .sl 0 0 m 1), (28, .cv (ci64 n)), (29, .cv (ci64 j)), (33, .cv (ci64 o)), (34, .cv (ci64 0))], [some [.cv (.lit (.bool false)), .cv (.lit (.bool true))]]⟩ R := by
 subst hf hj
 have h1 := ho.1
 have h2 := ho.2.1
 refine WMB_p1 o n 0 m false (decide_eq_true (by omega)) (by omega) (by rw [hn]; rfl) ?_
 have := WM_inner (R := R) (n := n) (j := 0) (m := m) (f := false) ho [] 0 (by omega) rfl hn (by omega) (by simpa using hR) (o.toNat - 1) 1 (by omega)
 have e : IntKind.i64.wrap (Int.tdiv 0 o) = ((0 : Nat) : Int) * (24 / o) := by rw [Int.zero_tdiv]; simp; rfl
 rw [e]
 exact this
theorem WMot_ok (o : Int) (b : Bool) (ho : okO o) : PCall P 26 [ci64 o, .lit (.bool b)] (.tup [motsV o b, ci64 0]) := by
 have h1 := ho.1
 have h2 := ho.2.1
 have h3 : (Int.tmod 24 o != 0) = false := by rcases okO_cases ho with rfl | rfl | rfl | rfl | rfl | rfl | rfl | rfl <;> decide
 cases b with
 | false =>
  refine WMot_p4 o false (decide_eq_false (by omega)) (decide_eq_false (by omega)) h3 rfl (by omega) (R := (· = _)) ?_
  refine WMA_p1 o 1 1 (by decide) (by decide) rfl ?_
  refine WM_mid ho rfl false rfl rfl ?_
  exact WMD_p2 o 1 1 _ _ (by decide) (by simp [own, motL_length, List.take_of_length_le]) (show CV.tup _ = CV.tup _ by simp [motsV, cntM, cellsM])
 | true =>
  refine WMot_p5 o true (decide_eq_false (by omega)) (decide_eq_false (by omega)) h3 rfl (by omega) (R := (· = _)) ?_
  refine WMA_p1 o 2 2 (by decide) (by decide) rfl ?_
  refine WM_mid ho rfl false rfl rfl ?_
  refine WMD_p1 o 2 2 _ _ (by decide) (by decide) (CvL.own _) rfl ?_
  have := WM_inner (R := (· = CV.tup [motsV o true, ci64 0])) (n := 2) (j := 1) (m := 2) (f := true) ho (motL o false o.toNat) o.toNat (by omega) (motL_length _ _ _) rfl (by omega) ?_ o.toNat 0 (by omega)
  · simpa [motL] using this
  · exact WME_p1 o 2 2 (by decide) 2 _ _ (by rw [List.drop_zero]; exact List.take_of_length_le (by simp [own, motL_length]; omega)) (show CV.tup _ = CV.tup _ by simp [motsV, cntM, cellsM])
end Go.Fw
open Go IntKind
namespace Go.Fw
set_option maxRecDepth 100000
theorem WOrb_p1 (i o : Int) (b : Bool) (s4_0 : okO o) {R : CV → Prop} (hR : Ok P 28 (loopHead P 28 0) ⟨mkTm 48 [(0, .cv (.lit (.int .i64 i))), (10, .ptr 0 0), (25, .cv (.lst (cntM o b) (cellsM o b))), (26, .cv (.lit (.int .i64 ↑(cntM o b)))), (27, .cv (.lit (.int .i64 0)))], [some [.cv (.lit (.bool false)), .cv (.lit (.bool false)), .cv (.lit (.bool false)), .cv (.lit (.bool false)), .cv (.lit (.bool false)), .cv (.lit (.bool false)), .cv (.lit (.bool false)), .cv (.lit (.bool false)), .cv (.lit (.bool false)), .cv (.lit (.bool false)), .cv (.lit (.bool false)), .cv (.lit (.bool false)), .cv (.lit (.bool false)), .cv (.lit (.bool false)), .cv (.lit (.bool false)), .cv (.lit (.bool false)), .cv (.lit (.bool false)), .cv (.lit (.bool false)), .cv (.lit (.bool false)), .cv (.lit (.bool false)), .cv (.lit (.bool false)), .cv (.lit (.bool false)), .cv (.lit (.bool false)), .cv (.lit (.bool false))]]⟩ (.of R)) : PCallQ P 28 [ci64 i, ci64 o, .lit (.bool b)] R :=
 pcallST (keep := [0, 10, 25, 26, 27]) (σ := [1]) (.r 4 (WMot_ok (o) (b) s4_0) (.o 17 .stop .nil)) (by kernel_rfl) rfl hR (.cons (by simp [CvL]) .nil)
end Go.Fw
open Go
namespace Go.Fw
def th (t : Nat → Bool) (p : Nat) : MV := .cv (.lit (.bool (t p)))
def thsM (t : Nat → Bool) : List MV := [th t 0, th t 1, th t 2, th t 3, th t 4, th t 5, th t 6, th t 7, th t 8, th t 9, th t 10, th t 11, th t 12, th t 13, th t 14, th t 15, th t 16, th t 17, th t 18, th t 19, th t 20, th t 21, th t 22, th t 23]
end Go.Fw
