/- A part of the proof that the law returns true for every input: an executor for the model's code, and what functions of the program compute. -/
import Derived.Test.YtcafjpldfnegiaaGreatDoorB11
import Derived.Test.YtcafjpldfnegiaaGreatDoorB15
import Derived.Test.YtcafjpldfnegiaaGreatDoorB38
import Derived.Test.YtcafjpldfnegiaaGreatDoorB39
import Derived.KernelRfl
open Go
namespace Go.Fw
theorem WSin_spec (i : Int) : PCall P 35 [ci64 i] (numC (sinK i)) := (WSin_p1 i).eq (by rw [w64 (by omega)]; rfl)
theorem validM_iff {t : Int} : validM t = true ↔ 0 ≤ t ∧ t < 24 := by unfold validM; exact decide_eq_true_iff
def idxM (t : Int) (b : Bool) (i : Int) : Int := if validM t then (turned i b + t) % 24 else 0
theorem turned_bd (i : Int) (b : Bool) : -24 < turned i b ∧ turned i b < 24 := by unfold turned; split <;> omega
theorem WIndex_spec (t : Int) (b : Bool) (i : Int) : PCall P 42 [.agg [ci64 t, .lit (.bool b)], ci64 i] (ci64 (idxM t b i)) := by
 cases h : validM t with
 | true =>
  have := validM_iff.1 h
  have := turned_bd i b
  exact (WIndex_p1 t b i h).eq (by rw [w64 (by omega)]; simp only [idxM, h, if_true])
 | false => exact (WIndex_p2 t b i h).eq (by simp [idxM, h])
end Go.Fw
open Go IntKind
namespace Go.Fw
set_option maxRecDepth 100000
theorem WMot_p4 (o : Int) (b : Bool) (h1 : decide (o < 1) = false) (h2 : decide (o > 24) = false) (h3 : (Int.tmod 24 o != 0) = false) (h4 : (!b) = true) (o2 : o ≠ 0) {R : CV → Prop} (hR : Ok P 26 (loopHead P 26 0) ⟨mkTm 49 [(0, .cv (.lit (.int .i64 o))), (7, .cv (CV.lit (Value.slice none 0 0))), (27, .sl 0 0 1 1), (28, .cv (.lit (.int .i64 1))), (29, .cv (.lit (.int .i64 0)))], [some [.cv (.lit (.bool false)), .cv (.lit (.bool true))]]⟩ (.of R)) : PCallQ P 26 [ci64 o, .lit (.bool b)] R :=
 pcallST (keep := [0, 7, 27, 28, 29]) (σ := [0]) (.b 4 h1 (.b 8 h2 (.c o2 (.b 13 h3 (.b 18 h4 (.c (show (0 : Int) ≤ 0 ∧ (0 : Int) ≤ 1 ∧ (1 : Int) ≤ 2 ∧ ((0 : Int) = 0 ∨ (0 : Int) < 1) from by decide) (.o 26 .stop .nil))))))) (by kernel_rfl) rfl hR (.cons (by simp [CvL]) .nil)
theorem WMot_p5 (o : Int) (b : Bool) (h1 : decide (o < 1) = false) (h2 : decide (o > 24) = false) (h3 : (Int.tmod 24 o != 0) = false) (h4 : (!b) = false) (o2 : o ≠ 0) {R : CV → Prop} (hR : Ok P 26 (loopHead P 26 0) ⟨mkTm 49 [(0, .cv (.lit (.int .i64 o))), (7, .cv (CV.lit (Value.slice none 0 0))), (27, .sl 0 0 2 1), (28, .cv (.lit (.int .i64 2))), (29, .cv (.lit (.int .i64 0)))], [some [.cv (.lit (.bool false)), .cv (.lit (.bool true))]]⟩ (.of R)) : PCallQ P 26 [ci64 o, .lit (.bool b)] R :=
 pcallST (keep := [0, 7, 27, 28, 29]) (σ := [0]) (.b 4 h1 (.b 8 h2 (.c o2 (.b 13 h3 (.b 18 h4 (.o 23 .stop .nil)))))) (by kernel_rfl) rfl hR (.cons (by simp [CvL]) .nil)
end Go.Fw
open Go IntKind
namespace Go.Fw
set_option maxRecDepth 100000
theorem WMA_p1 (o n : Int) (m : Nat) (h1 : decide ((0 : Int) < n) = true) (o1 : (0 : Int) ≤ 0 ∧ (0 : Int) < m) {R : Goal} (hn : lentOk R.n [0] = true) (hR : Ok P 26 (loopHead P 26 1) ⟨mkTm 49 [(0, .cv (.lit (.int .i64 o))), (7, .cv (CV.lit (Value.slice none 0 0))), (9, .cv (.lit (.bool false))), (27, .sl 0 0 m 1), (28, .cv (.lit (.int .i64 n))), (29, .cv (.lit (.int .i64 0))), (33, .cv (.lit (.int .i64 o))), (34, .cv (.lit (.int .i64 0)))], [some [.cv (.lit (.bool false)), .cv (.lit (.bool true))]]⟩ R) : Ok P 26 (loopHead P 26 0) ⟨mkTm 49 [(0, .cv (ci64 o)), (7, .cv (CV.lit (Value.slice none 0 0))), (27, .sl 0 0 m 1), (28, .cv (ci64 n)), (29, .cv (ci64 0))], [some [.cv (.lit (.bool false)), .cv (.lit (.bool true))]]⟩ R :=
 okST (keep := [0, 7, 9, 27, 28, 29, 33, 34]) (σ := [0]) (.b 2 h1 (.c o1 (.o 8 .stop .nil))) (by kernel_rfl) rfl hn hR (.cons (by simp [CvL]) .nil)
theorem WMB_p1 (o n j : Int) (m : Nat) (f : Bool) (h1 : decide ((0 : Int) < o) = true) (o1 : o ≠ 0) {R : Goal} (hn : lentOk R.n [2, 0] = true) (hR : Ok P 26 (loopHead P 26 1) ⟨mkTm 49 [(0, .cv (.lit (.int .i64 o))), (7, .sl 0 0 1 2), (9, .cv (.lit (.bool f))), (27, .sl (0 + 1) 0 m 1), (28, .cv (.lit (.int .i64 n))), (29, .cv (.lit (.int .i64 j))), (33, .cv (.lit (.int .i64 o))), (34, .cv (.lit (.int .i64 1)))], [some [.cv (.lit (.int .i64 (i64.wrap (Int.tdiv 0 o)))), .cv (.lit (.bool f))], some [.cv (.lit (.bool false)), .cv (.lit (.bool true))]]⟩ R) : Ok P 26 (loopHead P 26 1) ⟨mkTm 49 [(0, .cv (ci64 o)), (7, .cv (CV.lit (Value.slice none 0 0))), (9, .cv (.lit (.bool f))), (27, .sl 0 0 m 1), (28, .cv (ci64 n)), (29, .cv (ci64 j)), (33, .cv (ci64 o)), (34, .cv (ci64 0))], [some [.cv (.lit (.bool false)), .cv (.lit (.bool true))]]⟩ R :=
 okST (keep := [0, 7, 9, 27, 28, 29, 33, 34]) (σ := [2, 0]) (.b 2 h1 (.c o1 (.c (lq 16 1099511627776) (.c (lq 1 1099511627776) (.c (show 0 < 1 from by decide) (.c (eqn 2) (.o 17 .stop .nil))))))) (by kernel_rfl) rfl hn hR (.cons (by simp [CvL]) (.cons (by simp [CvL]) .nil))
theorem WMC_p1 (o n j k : Int) (m c : Nat) (f : Bool) (cells : List CV) (h1 : decide (k < o) = true) (o1 : o ≠ 0) (o2 : (c + 1) * 16 ≤ 1099511627776) (o3 : c + 1 ≤ 1099511627776) (o4 : (own cells).length = c * 2) (o5 : OneL [.cv (.lit (.int .i64 (i64.wrap ((i64.wrap (k * 24)).tdiv o)))), .cv (.lit (.bool f))]) (o7 : CvL (own cells ++ [.cv (.lit (.int .i64 (i64.wrap ((i64.wrap (k * 24)).tdiv o)))), .cv (.lit (.bool f))])) {R : Goal} (hn : lentOk R.n [3, 1] = true) (hR : Ok P 26 (loopHead P 26 1) ⟨mkTm 49 [(0, .cv (.lit (.int .i64 o))), (7, .sl 0 0 (c + 1) 2), (9, .cv (.lit (.bool f))), (27, .sl (0 + 1) 0 m 1), (28, .cv (.lit (.int .i64 n))), (29, .cv (.lit (.int .i64 j))), (33, .cv (.lit (.int .i64 o))), (34, .cv (.lit (.int .i64 (i64.wrap (k + 1)))))], [some (own cells ++ [.cv (.lit (.int .i64 (i64.wrap ((i64.wrap (k * 24)).tdiv o)))), .cv (.lit (.bool f))]), some [.cv (.lit (.bool false)), .cv (.lit (.bool true))]]⟩ R) : Ok P 26 (loopHead P 26 1) ⟨mkTm 49 [(0, .cv (ci64 o)), (7, .sl 0 0 c 2), (9, .cv (.lit (.bool f))), (27, .sl 1 0 m 1), (28, .cv (ci64 n)), (29, .cv (ci64 j)), (33, .cv (ci64 o)), (34, .cv (ci64 k))], [some (own cells), some [.cv (.lit (.bool false)), .cv (.lit (.bool true))]]⟩ R :=
 okST (keep := [0, 7, 9, 27, 28, 29, 33, 34]) (σ := [3, 1]) (.b 2 h1 (.c o1 (.c o2 (.c o3 (.c o4 (.c o5 (.c (eqn 2) (.o 17 .stop .nil)))))))) (by kernel_rfl) rfl hn hR (.cons o7 (.cons (by simp [CvL]) .nil))
theorem WMC_p2 (o n j k : Int) (m c : Nat) (f : Bool) (cells : List CV) (h1 : decide (k < o) = false) (o1 : CvL (own cells)) {R : Goal} (hn : lentOk R.n [0, 1] = true) (hR : Ok P 26 (loopHead P 26 0) ⟨mkTm 49 [(0, .cv (.lit (.int .i64 o))), (7, .sl 0 0 c 2), (27, .sl (0 + 1) 0 m 1), (28, .cv (.lit (.int .i64 n))), (29, .cv (.lit (.int .i64 (i64.wrap (j + 1)))))], [some (own cells), some [.cv (.lit (.bool false)), .cv (.lit (.bool true))]]⟩ R) : Ok P 26 (loopHead P 26 1) ⟨mkTm 49 [(0, .cv (ci64 o)), (7, .sl 0 0 c 2), (9, .cv (.lit (.bool f))), (27, .sl 1 0 m 1), (28, .cv (ci64 n)), (29, .cv (ci64 j)), (33, .cv (ci64 o)), (34, .cv (ci64 k))], [some (own cells), some [.cv (.lit (.bool false)), .cv (.lit (.bool true))]]⟩ R :=
 okST (keep := [0, 7, 27, 28, 29]) (σ := [0, 1]) (.b 2 h1 (.o 5 .stop .nil)) (by kernel_rfl) rfl hn hR (.cons o1 (.cons (by simp [CvL]) .nil))
theorem WMD_p1 (o n : Int) (m c : Nat) (cells : List CV) (h1 : decide ((1 : Int) < n) = true) (o1 : (0 : Int) ≤ 1 ∧ (1 : Int) < m) (o2 : CvL (own cells)) {R : Goal} (hn : lentOk R.n [0, 1] = true) (hR : Ok P 26 (loopHead P 26 1) ⟨mkTm 49 [(0, .cv (.lit (.int .i64 o))), (7, .sl 0 0 c 2), (9, .cv (.lit (.bool true))), (27, .sl (0 + 1) 0 m 1), (28, .cv (.lit (.int .i64 n))), (29, .cv (.lit (.int .i64 1))), (33, .cv (.lit (.int .i64 o))), (34, .cv (.lit (.int .i64 0)))], [some (own cells), some [.cv (.lit (.bool false)), .cv (.lit (.bool true))]]⟩ R) : Ok P 26 (loopHead P 26 0) ⟨mkTm 49 [(0, .cv (ci64 o)), (7, .sl 0 0 c 2), (27, .sl 1 0 m 1), (28, .cv (ci64 n)), (29, .cv (ci64 1))], [some (own cells), some [.cv (.lit (.bool false)), .cv (.lit (.bool true))]]⟩ R :=
 okST (keep := [0, 7, 9, 27, 28, 29, 33, 34]) (σ := [0, 1]) (.b 2 h1 (.c o1 (.o 8 .stop .nil))) (by kernel_rfl) rfl hn hR (.cons o2 (.cons (by simp [CvL]) .nil))
theorem WMD_p2 (o n : Int) (m c : Nat) (cells : List CV) (h1 : decide ((1 : Int) < n) = false) (o1 : List.take (c * 2) (List.drop 0 (own cells)) = List.map MV.cv cells) {R : Goal} (hR : R.c (.tup [.lst c cells, .lit (.int .i64 0)])) : Ok P 26 (loopHead P 26 0) ⟨mkTm 49 [(0, .cv (ci64 o)), (7, .sl 0 0 c 2), (27, .sl 1 0 m 1), (28, .cv (ci64 n)), (29, .cv (ci64 1))], [some (own cells), some [.cv (.lit (.bool false)), .cv (.lit (.bool true))]]⟩ R :=
 okT (.b 2 h1 (.c o1 (.o 6 (.r (CV.lit undef) [cells]) .nil))) (by kernel_rfl) hR
theorem WME_p1 (o n j : Int) (h : decide (j < n) = false) (m c : Nat) (cells : List CV) (o1 : List.take (c * 2) (List.drop 0 (own cells)) = List.map MV.cv cells) {R : Goal} (hR : R.c (.tup [.lst c cells, .lit (.int .i64 0)])) : Ok P 26 (loopHead P 26 0) ⟨mkTm 49 [(0, .cv (ci64 o)), (7, .sl 0 0 c 2), (27, .sl 1 0 m 1), (28, .cv (ci64 n)), (29, .cv (ci64 j))], [some (own cells), some [.cv (.lit (.bool false)), .cv (.lit (.bool true))]]⟩ R :=
 okT (.b 2 h (.c o1 (.o 6 (.r (CV.lit undef) [cells]) .nil))) (by kernel_rfl) hR
end Go.Fw
open Go
namespace Go.Fw
def motL (o : Int) (f : Bool) : Nat → List CV
 | 0 => []
 | k + 1 => motL o f k ++ [ci64 (k * (24 / o)), .lit (.bool f)]
theorem motL_length (o : Int) (f : Bool) : ∀ k, (motL o f k).length = k * 2
 | 0 => rfl
 | k + 1 => by simp [motL, motL_length o f k]; omega
def okO (o : Int) : Prop := 1 ≤ o ∧ o ≤ 24 ∧ 24 % o = 0
theorem okO_cases {o : Int} (h : okO o) : o = 1 ∨ o = 2 ∨ o = 3 ∨ o = 4 ∨ o = 6 ∨ o = 8 ∨ o = 12 ∨ o = 24 := by
 obtain ⟨h1, h2, h3⟩ := h
 have : o = 1 ∨ o = 2 ∨ o = 3 ∨ o = 4 ∨ o = 5 ∨ o = 6 ∨ o = 7 ∨ o = 8 ∨ o = 9 ∨ o = 10 ∨ o = 11 ∨ o = 12 ∨ o = 13 ∨ o = 14 ∨ o = 15 ∨ o = 16 ∨ o = 17 ∨ o = 18 ∨ o = 19 ∨ o = 20 ∨ o = 21 ∨ o = 22 ∨ o = 23 ∨ o = 24 := by omega
 rcases this with rfl | rfl | rfl | rfl | rfl | rfl | rfl | rfl | rfl | rfl | rfl | rfl | rfl | rfl | rfl | rfl | rfl | rfl | rfl | rfl | rfl | rfl | rfl | rfl <;> revert h3 <;> decide
theorem step24 {o : Int} (h : okO o) (k : Nat) (hk : (k : Int) < o) : IntKind.i64.wrap ((IntKind.i64.wrap (k * 24)).tdiv o) = k * (24 / o) ∧ IntKind.i64.wrap (k * IntKind.i64.wrap (Int.tdiv 24 o)) = k * (24 / o) := by
 have b : 0 ≤ 24 / o ∧ 24 / o ≤ 24 := by rcases okO_cases h with rfl | rfl | rfl | rfl | rfl | rfl | rfl | rfl <;> decide
 rw [w64 (n := k * 24) (by have := h.2.1; omega), Int.tdiv_eq_ediv_of_nonneg (by omega), Int.tdiv_eq_ediv_of_nonneg (by omega), w64 (n := 24 / o) (by omega)]
 rcases okO_cases h with rfl | rfl | rfl | rfl | rfl | rfl | rfl | rfl
 all_goals
  simp only [Int.reduceDiv]
  refine ⟨?_, ?_⟩
  · rw [w64 (by omega)]; omega
  · rw [w64 (by omega)]
def cellsM (o : Int) (b : Bool) : List CV := motL o false o.toNat ++ (if b then motL o true o.toNat else [])
def cntM (o : Int) (b : Bool) : Nat := if b then o.toNat + o.toNat else o.toNat
theorem CvL.own (l : List CV) : CvL (own l) := CvL.map_cv l
theorem own_app (a b : List CV) : own (a ++ b) = own a ++ own b := by simp [own]
theorem WM_inner {R : Goal} {o n j : Int} {m : Nat} {f : Bool} (ho : okO o) (pre : List CV) (c0 : Nat) (hc : c0 ≤ 24) (hp : pre.length = c0 * 2) (hn : R.n = 0) (hj : -1000 < j ∧ j < 1000)
    (hR : Ok P 26 (loopHead P 26 0) ⟨mkTm 49 [(0, .cv (ci64 o)), (7, .sl 0 0 (c0 + o.toNat) 2), (27, .sl 1 0 m 1), (28, .cv (ci64 n)), (29, .cv (ci64 (j + 1)))], [some (own (pre ++ motL o f o.toNat)), some [.cv (.lit (.bool false)), .cv (.lit (.bool true))]]⟩ R) :
    ∀ (d k : Nat), k + d = o.toNat → Ok P 26 (loopHead P 26 1) ⟨mkTm 49 [(0, .cv (ci64 o)), (7, .sl 0 0 (c0 + k) 2), (9, .cv (.lit (.bool f))), (27, .sl 1 0 m 1), (28, .cv (ci64 n)), (29, .cv (ci64 j)), (33, .cv (ci64 o)), (34, .cv (ci64 k))], [some (own (pre ++ motL o f k)), some [.cv (.lit (.bool false)), .cv (.lit (.bool true))]]⟩ R
 | 0, k, hk => by
  have h1 := ho.1
  have e : k = o.toNat := by omega
  subst e
  refine WMC_p2 o n j _ m _ f _ (decide_eq_false (by omega)) (CvL.own _) (by rw [hn]; rfl) ?_
  rw [w64 (by omega)]
  exact hR
 | d + 1, k, hk => by
  have h1 := ho.1
  have h2 := ho.2.1
  have e := (step24 ho k (by omega)).1
  refine WMC_p1 o n j _ m _ f _ (decide_eq_true (by omega)) (by omega) (by omega) (by omega) (by simp [own, motL_length, hp]; omega) (by intro m hm; simp only [List.mem_cons, List.not_mem_nil, or_false] at hm; rcases hm with rfl | rfl <;> rfl) ?_ (by rw [hn]; rfl) ?_
  · show CvL (own (pre ++ motL o f k) ++ own [ci64 _, .lit (.bool f)])
    rw [← own_app]; exact CvL.own _
  · rw [e, w64 (by omega)]
    have := WM_inner ho pre c0 hc hp hn hj hR d (k + 1) (by omega)
    rw [show pre ++ motL o f (k + 1) = pre ++ motL o f k ++ [ci64 (k * (24 / o)), .lit (.bool f)] by simp [motL], own_app] at this
    exact this
def motsV (o : Int) (b : Bool) : CV := .lst (cntM o b) (cellsM o b)
theorem WM_mid {R : Goal} {o n j : Int} {m : Nat} (ho : okO o) (hn : R.n = 0) (f : Bool) (hf : f = false) (hj : j = 0)
    (hR : Ok P 26 (loopHead P 26 0) ⟨mkTm 49 [(0, .cv (ci64 o)), (7, .sl 0 0 o.toNat 2), (27, .sl 1 0 m 1), (28, .cv (ci64 n)), (29, .cv (ci64 1))], [some (own (motL o false o.toNat)), some [.cv (.lit (.bool false)), .cv (.lit (.bool true))]]⟩ R) :
    Ok P 26 (loopHead P 26 1) ⟨mkTm 49 [(0, .cv (ci64 o)), (7, .cv (.lit (.slice none 0 0))), (9, .cv (.lit (.bool f))), (27, .sl 0 0 m 1), (28, .cv (ci64 n)), (29, .cv (ci64 j)), (33, .cv (ci64 o)), (34, .cv (ci64 0))], [some [.cv (.lit (.bool false)), .cv (.lit (.bool true))]]⟩ R := by
 subst hf hj
 have h1 := ho.1
 have h2 := ho.2.1
 refine WMB_p1 o n 0 m false (decide_eq_true (by omega)) (by omega) (by rw [hn]; rfl) ?_
 have := WM_inner (R := R) (n := n) (j := 0) (m := m) (f := false) ho [] 0 (by omega) rfl hn (by omega) (by simpa using hR) (o.toNat - 1) 1 (by omega)
 have e : IntKind.i64.wrap (Int.tdiv 0 o) = ((0 : Nat) : Int) * (24 / o) := by rw [Int.zero_tdiv]; simp; rfl
 rw [e]
 exact this
theorem WMot_ok (o : Int) (b : Bool) (ho : okO o) : PCall P 26 [ci64 o, .lit (.bool b)] (.tup [motsV o b, ci64 0]) := by
 have h1 := ho.1
 have h2 := ho.2.1
 have h3 : (Int.tmod 24 o != 0) = false := by rcases okO_cases ho with rfl | rfl | rfl | rfl | rfl | rfl | rfl | rfl <;> decide
 cases b with
 | false =>
  refine WMot_p4 o false (decide_eq_false (by omega)) (decide_eq_false (by omega)) h3 rfl (by omega) (R := (· = _)) ?_
  refine WMA_p1 o 1 1 (by decide) (by decide) rfl ?_
  refine WM_mid ho rfl false rfl rfl ?_
  exact WMD_p2 o 1 1 _ _ (by decide) (by simp [own, motL_length, List.take_of_length_le]) (show CV.tup _ = CV.tup _ by simp [motsV, cntM, cellsM])
 | true =>
  refine WMot_p5 o true (decide_eq_false (by omega)) (decide_eq_false (by omega)) h3 rfl (by omega) (R := (· = _)) ?_
  refine WMA_p1 o 2 2 (by decide) (by decide) rfl ?_
  refine WM_mid ho rfl false rfl rfl ?_
  refine WMD_p1 o 2 2 _ _ (by decide) (by decide) (CvL.own _) rfl ?_
  have := WM_inner (R := (· = CV.tup [motsV o true, ci64 0])) (n := 2) (j := 1) (m := 2) (f := true) ho (motL o false o.toNat) o.toNat (by omega) (motL_length _ _ _) rfl (by omega) ?_ o.toNat 0 (by omega)
  · simpa [motL] using this
  · exact WME_p1 o 2 2 (by decide) 2 _ _ (by rw [List.drop_zero]; exact List.take_of_length_le (by simp [own, motL_length]; omega)) (show CV.tup _ = CV.tup _ by simp [motsV, cntM, cellsM])
end Go.Fw
open Go IntKind
namespace Go.Fw
set_option maxRecDepth 100000
theorem WOrb_p1 (i o : Int) (b : Bool) (s4_0 : okO o) {R : CV → Prop} (hR : Ok P 28 (loopHead P 28 0) ⟨mkTm 48 [(0, .cv (.lit (.int .i64 i))), (10, .ptr 0 0), (25, .cv (.lst (cntM o b) (cellsM o b))), (26, .cv (.lit (.int .i64 ↑(cntM o b)))), (27, .cv (.lit (.int .i64 0)))], [some [.cv (.lit (.bool false)), .cv (.lit (.bool false)), .cv (.lit (.bool false)), .cv (.lit (.bool false)), .cv (.lit (.bool false)), .cv (.lit (.bool false)), .cv (.lit (.bool false)), .cv (.lit (.bool false)), .cv (.lit (.bool false)), .cv (.lit (.bool false)), .cv (.lit (.bool false)), .cv (.lit (.bool false)), .cv (.lit (.bool false)), .cv (.lit (.bool false)), .cv (.lit (.bool false)), .cv (.lit (.bool false)), .cv (.lit (.bool false)), .cv (.lit (.bool false)), .cv (.lit (.bool false)), .cv (.lit (.bool false)), .cv (.lit (.bool false)), .cv (.lit (.bool false)), .cv (.lit (.bool false)), .cv (.lit (.bool false))]]⟩ (.of R)) : PCallQ P 28 [ci64 i, ci64 o, .lit (.bool b)] R :=
 pcallST (keep := [0, 10, 25, 26, 27]) (σ := [1]) (.r 4 (WMot_ok (o) (b) s4_0) (.o 17 .stop .nil)) (by kernel_rfl) rfl hR (.cons (by simp [CvL]) .nil)
end Go.Fw
open Go
namespace Go.Fw
def th (t : Nat → Bool) (p : Nat) : MV := .cv (.lit (.bool (t p)))
def thsM (t : Nat → Bool) : List MV := [th t 0, th t 1, th t 2, th t 3, th t 4, th t 5, th t 6, th t 7, th t 8, th t 9, th t 10, th t 11, th t 12, th t 13, th t 14, th t 15, th t 16, th t 17, th t 18, th t 19, th t 20, th t 21, th t 22, th t 23]
end Go.Fw
open Go IntKind
namespace Go.Fw
set_option maxRecDepth 100000
theorem WOL_p1 (i : Int) (n : Nat) (k mt : Int) (mf : Bool) (es ths : List CV) (h1 : decide (k < (n : Int)) = true) (o1 : (0 : Int) ≤ k ∧ k < (n : Int)) (o2 : List.take 2 (List.drop (k.toNat * 2) es) = [.lit (.int .i64 mt), .lit (.bool mf)]) (o6 : (0 : Int) ≤ idxM mt mf i ∧ idxM mt mf i < 24) (o7 : 0 + (idxM mt mf i).toNat * 1 + 1 ≤ (own ths).length) (o8 : CvL (setCells (own ths) (0 + (idxM mt mf i).toNat * 1) [.cv (.lit (.bool true))])) {R : Goal} (hn : lentOk R.n [0] = true) (hR : Ok P 28 (loopHead P 28 0) ⟨mkTm 48 [(0, .cv (.lit (.int .i64 i))), (10, .ptr 0 0), (25, .cv (.lst n es)), (26, .cv (.lit (.int .i64 (n : Int)))), (27, .cv (.lit (.int .i64 (i64.wrap (k + 1)))))], [some (setCells (own ths) (0 + (idxM mt mf i).toNat * 1) [.cv (.lit (.bool true))])]⟩ R) : Ok P 28 (loopHead P 28 0) ⟨mkTm 48 [(0, .cv (ci64 i)), (10, .ptr 0 0), (25, .cv (.lst n es)), (26, .cv (ci64 (n : Int))), (27, .cv (ci64 k))], [some (own ths)]⟩ R :=
 okST (keep := [0, 10, 25, 26, 27]) (σ := [0]) (.b 2 h1 (.c o1 (.c o2 (.c (eqn 2) (.c (lq 2 2) (.c (WIndex_spec (mt) (mf) (i)) (.c o6 (.c o7 (.o 4 (.r (.agg [.lit (.int .i64 mt), .lit (.bool mf)])) (.o 9 (.r (.lit (.int .i64 (idxM mt mf i)))) (.o 14 .stop .nil))))))))))) (by kernel_rfl) rfl hn hR (.cons o8 .nil)
theorem WOX_p1 (i : Int) (n : Nat) (k : Int) (h : decide (k < (n : Int)) = false) (es : List CV) (t : Nat → Bool) {R : Goal} (hn : lentOk R.n [] = true) (hR : Ok P 28 (loopHead P 28 1) ⟨mkTm 48 [(13, .cv (CV.lit (Value.slice none 0 0))), (36, .agg [.cv (.lit (.bool (t 0))), .cv (.lit (.bool (t 1))), .cv (.lit (.bool (t 2))), .cv (.lit (.bool (t 3))), .cv (.lit (.bool (t 4))), .cv (.lit (.bool (t 5))), .cv (.lit (.bool (t 6))), .cv (.lit (.bool (t 7))), .cv (.lit (.bool (t 8))), .cv (.lit (.bool (t 9))), .cv (.lit (.bool (t 10))), .cv (.lit (.bool (t 11))), .cv (.lit (.bool (t 12))), .cv (.lit (.bool (t 13))), .cv (.lit (.bool (t 14))), .cv (.lit (.bool (t 15))), .cv (.lit (.bool (t 16))), .cv (.lit (.bool (t 17))), .cv (.lit (.bool (t 18))), .cv (.lit (.bool (t 19))), .cv (.lit (.bool (t 20))), .cv (.lit (.bool (t 21))), .cv (.lit (.bool (t 22))), .cv (.lit (.bool (t 23)))]), (37, .cv (.lit (.int .i64 0)))], []⟩ R) : Ok P 28 (loopHead P 28 0) ⟨mkTm 48 [(0, .cv (ci64 i)), (10, .ptr 0 0), (25, .cv (.lst n es)), (26, .cv (ci64 (n : Int))), (27, .cv (ci64 k))], [some (thsM t)]⟩ R :=
 okST (keep := [13, 36, 37]) (σ := []) (.b 2 h (.o 6 .stop .nil)) (by kernel_rfl) rfl hn hR .nil
theorem WOE_p1 (t : Nat → Bool) {R : Goal} (hR : R.c (.tup [CV.lit (Value.slice none 0 0), .lit (.int .i64 0)])) : Ok P 28 (loopHead P 28 1) ⟨mkTm 48 [(13, .cv (CV.lit (Value.slice none 0 0))), (36, .agg (thsM t)), (37, .cv (ci64 24))], []⟩ R :=
 okT .nil (by kernel_rfl) hR
theorem WOF_p1 (t : Nat → Bool) (c : Nat) (out : List CV) (o0 : List.take (c * 1) (List.drop 0 (own out)) = List.map MV.cv out) {R : Goal} (hR : R.c (.tup [.lst c out, .lit (.int .i64 0)])) : Ok P 28 (loopHead P 28 1) ⟨mkTm 48 [(13, .sl 0 0 c 1), (36, .agg (thsM t)), (37, .cv (ci64 24))], [some (own out)]⟩ R :=
 okT (.c o0 (.o 6 (.r (CV.lit undef) [out]) .nil)) (by kernel_rfl) hR
end Go.Fw
open Go
namespace Go.Fw
set_option maxRecDepth 100000
set_option maxHeartbeats 1000000
theorem lt24 {p : Nat} (h : p < 24) : p = 0 ∨ p = 1 ∨ p = 2 ∨ p = 3 ∨ p = 4 ∨ p = 5 ∨ p = 6 ∨ p = 7 ∨ p = 8 ∨ p = 9 ∨ p = 10 ∨ p = 11 ∨ p = 12 ∨ p = 13 ∨ p = 14 ∨ p = 15 ∨ p = 16 ∨ p = 17 ∨ p = 18 ∨ p = 19 ∨ p = 20 ∨ p = 21 ∨ p = 22 ∨ p = 23 := by omega
def thsC (t : Nat → Bool) : List CV := [.lit (.bool (t 0)), .lit (.bool (t 1)), .lit (.bool (t 2)), .lit (.bool (t 3)), .lit (.bool (t 4)), .lit (.bool (t 5)), .lit (.bool (t 6)), .lit (.bool (t 7)), .lit (.bool (t 8)), .lit (.bool (t 9)), .lit (.bool (t 10)), .lit (.bool (t 11)), .lit (.bool (t 12)), .lit (.bool (t 13)), .lit (.bool (t 14)), .lit (.bool (t 15)), .lit (.bool (t 16)), .lit (.bool (t 17)), .lit (.bool (t 18)), .lit (.bool (t 19)), .lit (.bool (t 20)), .lit (.bool (t 21)), .lit (.bool (t 22)), .lit (.bool (t 23))]
theorem orb_set (t : Nat → Bool) {p : Nat} (h : p < 24) : setCells (own (thsC t)) (0 + p * 1) [.cv (.lit (.bool true))] = own (thsC (fun x => p == x || t x)) := by
 rcases lt24 h with rfl | rfl | rfl | rfl | rfl | rfl | rfl | rfl | rfl | rfl | rfl | rfl | rfl | rfl | rfl | rfl | rfl | rfl | rfl | rfl | rfl | rfl | rfl | rfl <;> rfl
section
variable (t : Nat → Bool) (p : Nat) (hp : p < 24)
include hp
theorem WOP1 (h1 : t p = true) {R : Goal} (hn : lentOk R.n [1] = true) (hR : Ok P 28 (loopHead P 28 1) ⟨mkTm 48 [(13, .sl 0 0 1 1), (36, .agg (thsM t)), (37, .cv (ci64 (p + 1)))], [some [.cv (ci64 p)]]⟩ R) :
    Ok P 28 (loopHead P 28 1) ⟨mkTm 48 [(13, .cv (.lit (.slice none 0 0))), (36, .agg (thsM t)), (37, .cv (ci64 p))], []⟩ R :=
 okS (keep := [13, 36, 37]) (σ := [1]) (ors := [(8, Or.b true), (16, Or.stop)]) (by rcases lt24 hp with rfl | rfl | rfl | rfl | rfl | rfl | rfl | rfl | rfl | rfl | rfl | rfl | rfl | rfl | rfl | rfl | rfl | rfl | rfl | rfl | rfl | rfl | rfl | rfl <;> kernel_rfl) rfl
  (.cons (show (0 : Int) ≤ p ∧ (p : Int) < 24 by omega) (.cons h1 (.cons (show 8 ≤ 1099511627776 by decide) (.cons (show 1 ≤ 1099511627776 by decide) (.cons (show 0 < 1 by decide) (.cons (show 1 = 1 from rfl) (.cons (show CvL (own [ci64 p]) from CvL.own _) .nil))))))) hn hR
theorem WOP2 (h1 : t p = false) {R : Goal} (hn : lentOk R.n [] = true) (hR : Ok P 28 (loopHead P 28 1) ⟨mkTm 48 [(13, .cv (.lit (.slice none 0 0))), (36, .agg (thsM t)), (37, .cv (ci64 (p + 1)))], []⟩ R) :
    Ok P 28 (loopHead P 28 1) ⟨mkTm 48 [(13, .cv (.lit (.slice none 0 0))), (36, .agg (thsM t)), (37, .cv (ci64 p))], []⟩ R :=
 okS (keep := [13, 36, 37]) (σ := []) (ors := [(8, Or.b false), (11, Or.stop)]) (by rcases lt24 hp with rfl | rfl | rfl | rfl | rfl | rfl | rfl | rfl | rfl | rfl | rfl | rfl | rfl | rfl | rfl | rfl | rfl | rfl | rfl | rfl | rfl | rfl | rfl | rfl <;> kernel_rfl) rfl
  (.cons (show (0 : Int) ≤ p ∧ (p : Int) < 24 by omega) (.cons h1 .nil)) hn hR
theorem WOQ1 (c : Nat) (out : List CV) (h1 : t p = true) (hc : c < 24) (ho : out.length = c) {R : Goal} (hn : lentOk R.n [2] = true) (hR : Ok P 28 (loopHead P 28 1) ⟨mkTm 48 [(13, .sl 0 0 (c + 1) 1), (36, .agg (thsM t)), (37, .cv (ci64 (p + 1)))], [some (own out ++ own [ci64 p])]⟩ R) :
    Ok P 28 (loopHead P 28 1) ⟨mkTm 48 [(13, .sl 0 0 c 1), (36, .agg (thsM t)), (37, .cv (ci64 p))], [some (own out)]⟩ R :=
 okS (keep := [13, 36, 37]) (σ := [2]) (ors := [(8, Or.b true), (16, Or.stop)]) (by rcases lt24 hp with rfl | rfl | rfl | rfl | rfl | rfl | rfl | rfl | rfl | rfl | rfl | rfl | rfl | rfl | rfl | rfl | rfl | rfl | rfl | rfl | rfl | rfl | rfl | rfl <;> kernel_rfl) rfl
  (.cons (show (0 : Int) ≤ p ∧ (p : Int) < 24 by omega) (.cons h1 (.cons (show (c + 1) * 8 ≤ 1099511627776 by omega) (.cons (show c + 1 ≤ 1099511627776 by omega) (.cons (show (own out).length = c * 1 by simp [own, ho]) (.cons (show OneL (own [ci64 p]) by intro m hm; simp only [own, List.map_cons, List.map_nil, List.mem_cons, List.not_mem_nil, or_false] at hm; subst hm; rfl) (.cons (show 1 = 1 from rfl) (.cons (show CvL (own out ++ own [ci64 p]) by rw [← own_app]; exact CvL.own _) .nil)))))))) hn hR
theorem WOQ2 (c : Nat) (out : List CV) (h1 : t p = false) {R : Goal} (hn : lentOk R.n [0] = true) (hR : Ok P 28 (loopHead P 28 1) ⟨mkTm 48 [(13, .sl 0 0 c 1), (36, .agg (thsM t)), (37, .cv (ci64 (p + 1)))], [some (own out)]⟩ R) :
    Ok P 28 (loopHead P 28 1) ⟨mkTm 48 [(13, .sl 0 0 c 1), (36, .agg (thsM t)), (37, .cv (ci64 p))], [some (own out)]⟩ R :=
 okS (keep := [13, 36, 37]) (σ := [0]) (ors := [(8, Or.b false), (11, Or.stop)]) (by rcases lt24 hp with rfl | rfl | rfl | rfl | rfl | rfl | rfl | rfl | rfl | rfl | rfl | rfl | rfl | rfl | rfl | rfl | rfl | rfl | rfl | rfl | rfl | rfl | rfl | rfl <;> kernel_rfl) rfl
  (.cons (show (0 : Int) ≤ p ∧ (p : Int) < 24 by omega) (.cons h1 (.cons (CvL.own out) .nil))) hn hR
end
end Go.Fw
open Go
namespace Go.Fw
set_option maxRecDepth 100000
def outFrom (t : Nat → Bool) : Nat → Nat → List CV
 | _, 0 => []
 | p, d + 1 => (if t p then [ci64 p] else []) ++ outFrom t (p + 1) d
def outV : List CV → CV
 | [] => .lit (.slice none 0 0)
 | c :: l => .lst (l.length + 1) (c :: l)
theorem WO_list (t : Nat → Bool) {R : Goal} (hn : R.n = 0) : ∀ (d p : Nat) (out : List CV), p + d = 24 → out.length ≤ p → R.c (.tup [.lst (out ++ outFrom t p d).length (out ++ outFrom t p d), ci64 0]) →
    Ok P 28 (loopHead P 28 1) ⟨mkTm 48 [(13, .sl 0 0 out.length 1), (36, .agg (thsM t)), (37, .cv (ci64 p))], [some (own out)]⟩ R
 | 0, p, out, hp, _, hR => by
  have : p = 24 := by omega
  subst this
  refine WOF_p1 t out.length out (by rw [List.drop_zero]; exact List.take_of_length_le (by simp [own])) ?_
  simpa [outFrom] using hR
 | d + 1, p, out, hp, ho, hR => by
  have ih := WO_list t hn d (p + 1)
  cases h : t p with
  | true =>
   refine WOQ1 t p (by omega) out.length out h (by omega) rfl (by rw [hn]; rfl) ?_
   have := ih (out ++ [ci64 p]) (by omega) (by simp; omega) (by simpa [outFrom, h] using hR)
   rw [own_app, List.length_append] at this
   exact this
  | false =>
   refine WOQ2 t p (by omega) out.length out h (by rw [hn]; rfl) ?_
   exact ih out (by omega) (by omega) (by simpa [outFrom, h] using hR)
theorem WO_nil (t : Nat → Bool) {R : Goal} (hn : R.n = 0) : ∀ (d p : Nat), p + d = 24 → R.c (.tup [outV (outFrom t p d), ci64 0]) →
    Ok P 28 (loopHead P 28 1) ⟨mkTm 48 [(13, .cv (.lit (.slice none 0 0))), (36, .agg (thsM t)), (37, .cv (ci64 p))], []⟩ R
 | 0, p, hp, hR => by
  have : p = 24 := by omega
  subst this
  exact WOE_p1 t hR
 | d + 1, p, hp, hR => by
  cases h : t p with
  | true =>
   refine WOP1 t p (by omega) h (by rw [hn]; rfl) ?_
   exact WO_list t hn d (p + 1) [ci64 p] (by omega) (by simp) (by simpa [outFrom, h, outV] using hR)
  | false =>
   refine WOP2 t p (by omega) h (by rw [hn]; rfl) ?_
   exact WO_nil t hn d (p + 1) (by omega) (by simpa [outFrom, h] using hR)
def flatM : List (Int × Bool) → List CV
 | [] => []
 | m :: l => ci64 m.1 :: .lit (.bool m.2) :: flatM l
theorem flatM_app : ∀ (a b : List (Int × Bool)), flatM (a ++ b) = flatM a ++ flatM b
 | [], b => rfl
 | m :: a, b => by simp [flatM, flatM_app a b]
theorem flatM_length : ∀ (a : List (Int × Bool)), (flatM a).length = a.length * 2
 | [] => rfl
 | m :: a => by simp [flatM, flatM_length a]; omega
def motQ (o : Int) (f : Bool) : Nat → List (Int × Bool)
 | 0 => []
 | k + 1 => motQ o f k ++ [(k * (24 / o), f)]
theorem motL_flat (o : Int) (f : Bool) : ∀ k, motL o f k = flatM (motQ o f k)
 | 0 => rfl
 | k + 1 => by rw [motQ, flatM_app, motL, motL_flat o f k]; rfl
theorem motQ_length (o : Int) (f : Bool) : ∀ k, (motQ o f k).length = k
 | 0 => rfl
 | k + 1 => by simp [motQ, motQ_length o f k]
def motP (o : Int) (b : Bool) : List (Int × Bool) := motQ o false o.toNat ++ (if b then motQ o true o.toNat else [])
theorem cellsM_flat (o : Int) (b : Bool) : cellsM o b = flatM (motP o b) := by
 unfold cellsM motP
 rw [flatM_app, motL_flat]
 cases b with
 | true => simp [motL_flat]
 | false => rfl
theorem cntM_length (o : Int) (b : Bool) : cntM o b = (motP o b).length := by
 unfold cntM motP
 cases b <;> simp [motQ_length]
def mark (i : Int) (t : Nat → Bool) (m : Int × Bool) : Nat → Bool := fun x => (idxM m.1 m.2 i).toNat == x || t x
theorem idxM_bd (t : Int) (b : Bool) (i : Int) : 0 ≤ idxM t b i ∧ idxM t b i < 24 := by unfold idxM; split <;> omega
theorem WO_marks {R : Goal} (hn : R.n = 0) (i : Int) : ∀ (l2 l1 : List (Int × Bool)) (t : Nat → Bool), (l1 ++ l2).length ≤ 48 → R.c (.tup [outV (outFrom (l2.foldl (mark i) t) 0 24), ci64 0]) →
    Ok P 28 (loopHead P 28 0) ⟨mkTm 48 [(0, .cv (ci64 i)), (10, .ptr 0 0), (25, .cv (.lst (l1 ++ l2).length (flatM (l1 ++ l2)))), (26, .cv (ci64 (l1 ++ l2).length)), (27, .cv (ci64 l1.length))], [some (own (thsC t))]⟩ R
 | [], l1, t, hl, hR => by
  refine WOX_p1 i _ _ (decide_eq_false (by simp)) _ t (by rw [hn]; rfl) ?_
  exact WO_nil t hn 24 0 rfl hR
 | m :: l2, l1, t, hl, hR => by
  have hb := idxM_bd m.1 m.2 i
  have e1 : i = i := rfl
  refine WOL_p1 i _ _ m.1 m.2 _ _ (decide_eq_true (by simp; omega)) (by simp; omega) ?_ hb (by show 0 + (idxM m.1 m.2 i).toNat * 1 + 1 ≤ 24; omega) ?_ (by rw [hn]; rfl) ?_
  · rw [flatM_app]
    have : (l1.length : Int).toNat * 2 = (flatM l1).length := by rw [flatM_length]; simp
    rw [this, List.drop_left]; rfl
  · rw [orb_set t (by omega)]; exact CvL.own _
  · rw [orb_set t (by omega), w64 (by simp at hl; omega)]
    have := WO_marks hn i l2 (l1 ++ [m]) (mark i t m) (by simpa using hl) (by simpa using hR)
    rw [show l1 ++ m :: l2 = (l1 ++ [m]) ++ l2 by simp, show ((l1.length : Int) + 1) = ((l1 ++ [m]).length : Int) by simp]
    exact this
def orbT (o : Int) (b : Bool) (i : Int) : Nat → Bool := (motP o b).foldl (mark i) (fun _ => false)
theorem WOrb_ok (i o : Int) (b : Bool) (ho : okO o) : PCall P 28 [ci64 i, ci64 o, .lit (.bool b)] (.tup [outV (outFrom (orbT o b i) 0 24), ci64 0]) := by
 refine WOrb_p1 i o b ho (R := (· = _)) ?_
 have h1 := ho.1
 have h2 := ho.2.1
 have := WO_marks (R := (· = CV.tup [outV (outFrom (orbT o b i) 0 24), ci64 0])) rfl i (motP o b) [] (fun _ => false) (by simp only [List.nil_append, ← cntM_length, cntM]; split <;> omega) rfl
 simp only [List.nil_append] at this
 rw [← cellsM_flat, ← cntM_length] at this
 exact this
end Go.Fw
open Go
namespace Go.Fw
set_option maxRecDepth 100000
theorem aOrb : PCall P 28 [ci64 1, ci64 8, .lit (.bool true)] (.tup [.lst 16 [ci64 1, ci64 2, ci64 4, ci64 5, ci64 7, ci64 8, ci64 10, ci64 11, ci64 13, ci64 14, ci64 16, ci64 17, ci64 19, ci64 20, ci64 22, ci64 23], ci64 0]) := (WOrb_ok 1 8 true (by unfold okO; decide)).eq (by kernel_rfl)
theorem aCos : PCall P 33 [ci64 1] (n5C 0 1 0 1 4) := (WCos_spec 1).eq (by kernel_rfl)
theorem aPrint : PCall P 120 [n5C 0 1 0 1 4] (.lit (.string ⟨#[49, 47, 52, 114, 50, 43, 49, 47, 52, 114, 54]⟩)) := pPr_p1.eq (by kernel_rfl)
theorem aVal : PCall P 55 [.agg [ci64 5, .lit (.bool false)]] (.lit (.bool true)) := WValid_spec 5 false
end Go.Fw
open Go IntKind
namespace Go.Fw
set_option maxRecDepth 100000
theorem aw_p1 : PCall P 25 [] (.lit (.bool true)) :=
 pcallT (.r 1 (aOrb) (.c (bq 0 16) (.c (bq 15 16) (.r 27 (aCos) (.r 28 (aPrint) (.r 33 (aVal) .nil)))))) (by kernel_rfl)
end Go.Fw
open Go IntKind
namespace Go.Fw
set_option maxRecDepth 100000
theorem RSi_p1 (i : Int) : PCall P 36 [ci64 i] (numC (cosK (i64.wrap (i % 24 - 6)))) :=
 pcallT (.r 2 (RMod_spec (i)) (.r 4 (RCos_spec (i64.wrap (i % 24 - 6))) (.c (lq 10 10) .nil))) (by kernel_rfl)
end Go.Fw
open Go
namespace Go.Fw
theorem RSin_spec (i : Int) : PCall P 36 [ci64 i] (numC (sinK i)) := (RSi_p1 i).eq (by rw [w64 (by omega)]; rfl)
end Go.Fw
open Go
namespace Go.Fw
set_option maxRecDepth 100000
def sm3b (x : K) : Bool := decide (x.c0.natAbs < 256) && decide (x.c1.natAbs < 256) && decide (x.c2.natAbs < 256) && decide (x.c3.natAbs < 256) && decide (x.d.natAbs < 256)
theorem Sm3.b {x : K} (h : sm3b x = true) : Sm3 x := by
 simp only [sm3b, Bool.and_eq_true, decide_eq_true_eq] at h
 exact Sm3.of ⟨h.1.1.1.1, h.1.1.1.2, h.1.1.2, h.1.2, h.2⟩
theorem cosK_mod (i : Int) : cosK i = cosK (i % 24) := by simp only [cosK, Int.emod_emod_of_dvd i (Int.dvd_refl 24)]
theorem sinK_mod (i : Int) : sinK i = sinK (i % 24) := by simp only [sinK, Int.emod_emod_of_dvd i (Int.dvd_refl 24)]
theorem circ1 : ∀ i : _root_.Fin 24, cosK i.val * cosK i.val + sinK i.val * sinK i.val = K.ofInt 1 := by decide +kernel
theorem circ4 : ∀ i : _root_.Fin 24, sm3b (cosK i.val) = true ∧ sm3b (sinK i.val) = true := by decide +kernel
theorem ex24 (i : Int) : ∃ a : _root_.Fin 24, i % 24 = (a.val : Int) := ⟨⟨(i % 24).toNat, by omega⟩, by simp only; omega⟩
theorem cos_at {i : Int} {a : _root_.Fin 24} (h : i % 24 = (a.val : Int)) : cosK i = cosK a.val := by rw [cosK_mod i, h]
theorem sin_at {i : Int} {a : _root_.Fin 24} (h : i % 24 = (a.val : Int)) : sinK i = sinK a.val := by rw [sinK_mod i, h]
theorem cos_sin_one (i : Int) : cosK i * cosK i + sinK i * sinK i = K.ofInt 1 := by
 obtain ⟨a, ha⟩ := ex24 i
 rw [cos_at ha, sin_at ha]; exact circ1 a
end Go.Fw
open Go
namespace Go.Fw
def numL (x : K) : List CV := [.lit (.bool (decide (x.c0 < 0))), cstr (bytesOf x.c0.natAbs), .lit (.bool (decide (x.c1 < 0))), cstr (bytesOf x.c1.natAbs), .lit (.bool (decide (x.c2 < 0))), cstr (bytesOf x.c2.natAbs), .lit (.bool (decide (x.c3 < 0))), cstr (bytesOf x.c3.natAbs), .lit (.bool (decide (x.d < 0))), cstr (bytesOf x.d.natAbs)]
def vecC (x y z : K) : CV := .agg (numL x ++ (numL y ++ numL z))
end Go.Fw
