/- A part of the proof that the law returns true for every input: an executor for the model's code, and what functions of the program compute. -/
import Derived.Test.YtcafjpldfnegiaaGreatDoorB11
import Derived.Test.YtcafjpldfnegiaaGreatDoorB15
import Derived.Test.YtcafjpldfnegiaaGreatDoorB28
import Derived.Test.YtcafjpldfnegiaaGreatDoorB29
import Derived.Test.YtcafjpldfnegiaaGreatDoorB30
import Derived.Test.YtcafjpldfnegiaaGreatDoorB31
import Derived.KernelRfl
open Go IntKind
namespace Go.Fw
set_option maxRecDepth 100000
theorem WOL_p1 (i : Int) (n : Nat) (k mt : Int) (mf : Bool) (es ths : List CV) (h1 : decide (k < (n : Int)) = true) (o1 : (0 : Int) ≤ k ∧ k < (n : Int)) (o2 : List.take 2 (List.drop (k.toNat * 2) es) = [.lit (.int .i64 mt), .lit (.bool mf)]) (o6 : (0 : Int) ≤ idxM mt mf i ∧ idxM mt mf i < 24) (o7 : 0 + (idxM mt mf i).toNat * 1 + 1 ≤ (own ths).length) (o8 : CvL (setCells (own ths) (0 + (idxM mt mf i).toNat * 1) [.cv (.lit (.bool true))])) {R : Goal} (hn : lentOk R.n [0] = true) (hR : Ok P 28 (loopHead P 28 0) ⟨mkTm 48 [(0, .cv (.lit (.int .i64 i))), (10, .ptr 0 0), (25, .cv (.lst n es)), (26, .cv (.lit (.int .i64 (n : Int)))), (27, .cv (.lit (.int .i64 (i64.wrap (k + 1)))))], [some (setCells (own ths) (0 + (idxM mt mf i).toNat * 1) [.cv (.lit (.bool true))])]⟩ R) : Ok P 28 (loopHead P 28 0) ⟨mkTm 48 [(0, .cv (ci64 i)), (10, .ptr 0 0), (25, .cv (.lst n es)), (26, .cv (ci64 (n : Int))), (27, .cv (ci64 k))], [some (own ths)]⟩ R :=
 okST (keep := [0, 10, 25, 26, 27]) (σ := [0]) (.b 2 h1 (.c o1 (.c o2 (.c (eqn 2) (.c (lq 2 2) (.c (WIndex_spec (mt) (mf) (i)) (.c o6 (.c o7 (.o 4 (.r (.agg [.lit (.int .i64 mt), .lit (.bool mf)])) (.o 9 (.r (.lit (.int .i64 (idxM mt mf i)))) (.o 14 .stop .nil))))))))))) (by kernel_rfl) rfl hn hR (.cons o8 .nil)
theorem WOX_p1 (i : Int) (n : Nat) (k : Int) (h : decide (k < (n : Int)) = false) (es : List CV) (t : Nat → Bool) {R : Goal} (hn : lentOk R.n [] = true) (hR : Ok P 28 (loopHead P 28 1) ⟨mkTm 48 [(13, .cv (CV.lit (Value.slice none 0 0))), (36, .agg [.cv (.lit (.bool (t 0))), .cv (.lit (.bool (t 1))), .cv (.lit (.bool (t 2))), .cv (.lit (.bool (t 3))), .cv (.lit (.bool (t 4))), .cv (.lit (.bool (t 5))), .cv (.lit (.bool (t 6))), .cv (.lit (.bool (t 7))), .cv (.lit (.bool (t 8))), .cv (.lit (.bool (t 9))), .cv (.lit (.bool (t 10))), .cv (.lit (.bool (t 11))), .cv (.lit (.bool (t 12))), .cv (.lit (.bool (t 13))), .cv (.lit (.bool (t 14))), .cv (.lit (.bool (t 15))), .cv (.lit (.bool (t 16))), .cv (.lit (.bool (t 17))), .cv (.lit (.bool (t 18))), .cv (.lit (.bool (t 19))), .cv (.lit (.bool (t 20))), .cv (.lit (.bool (t 21))), .cv (.lit (.bool (t 22))), .cv (.lit (.bool (t 23)))]), (37, .cv (.lit (.int .i64 0)))], []⟩ R) : Ok P 28 (loopHead P 28 0) ⟨mkTm 48 [(0, .cv (ci64 i)), (10, .ptr 0 0), (25, .cv (.lst n es)), (26, .cv (ci64 (n : Int))), (27, .cv (ci64 k))], [some (thsM t)]⟩ R :=
 okST (keep := [13, 36, 37]) (σ := []) (.b 2 h (.o 6 .stop .nil)) (by kernel_rfl) rfl hn hR .nil
theorem WOE_p1 (t : Nat → Bool) {R : Goal} (hR : R.c (.tup [CV.lit (Value.slice none 0 0), .lit (.int .i64 0)])) : Ok P 28 (loopHead P 28 1) ⟨mkTm 48 [(13, .cv (CV.lit (Value.slice none 0 0))), (36, .agg (thsM t)), (37, .cv (ci64 24))], []⟩ R :=
 okT .nil (by kernel_rfl) hR
theorem WOF_p1 (t : Nat → Bool) (c : Nat) (out : List CV) (o0 : List.take (c * 1) (List.drop 0 (own out)) = List.map MV.cv out) {R : Goal} (hR : R.c (.tup [.lst c out, .lit (.int .i64 0)])) : Ok P 28 (loopHead P 28 1) ⟨mkTm 48 [(13, .sl 0 0 c 1), (36, .agg (thsM t)), (37, .cv (ci64 24))], [some (own out)]⟩ R :=
 okT (.c o0 (.o 6 (.r (CV.lit undef) [out]) .nil)) (by kernel_rfl) hR
end Go.Fw
open Go
namespace Go.Fw
set_option maxRecDepth 100000
set_option maxHeartbeats 1000000
theorem lt24 {p : Nat} (h : p < 24) : p = 0 ∨ p = 1 ∨ p = 2 ∨ p = 3 ∨ p = 4 ∨ p = 5 ∨ p = 6 ∨ p = 7 ∨ p = 8 ∨ p = 9 ∨ p = 10 ∨ p = 11 ∨ p = 12 ∨ p = 13 ∨ p = 14 ∨ p = 15 ∨ p = 16 ∨ p = 17 ∨ p = 18 ∨ p = 19 ∨ p = 20 ∨ p = 21 ∨ p = 22 ∨ p = 23 := by omega
def thsC (t : Nat → Bool) : List CV := [.lit (.bool (t 0)), .lit (.bool (t 1)), .lit (.bool (t 2)), .lit (.bool (t 3)), .lit (.bool (t 4)), .lit (.bool (t 5)), .lit (.bool (t 6)), .lit (.bool (t 7)), .lit (.bool (t 8)), .lit (.bool (t 9)), .lit (.bool (t 10)), .lit (.bool (t 11)), .lit (.bool (t 12)), .lit (.bool (t 13)), .lit (.bool (t 14)), .lit (.bool (t 15)), .lit (.bool (t 16)), .lit (.bool (t 17)), .lit (.bool (t 18)), .lit (.bool (t 19)), .lit (.bool (t 20)), .lit (.bool (t 21)), .lit (.bool (t 22)), .lit (.bool (t 23))]
theorem orb_set (t : Nat → Bool) {p : Nat} (h : p < 24) : setCells (own (thsC t)) (0 + p * 1) [.cv (.lit (.bool true))] = own (thsC (fun x => p == x || t x)) := by
 rcases lt24 h with rfl | rfl | rfl | rfl | rfl | rfl | rfl | rfl | rfl | rfl | rfl | rfl | rfl | rfl | rfl | rfl | rfl | rfl | rfl | rfl | rfl | rfl | rfl | rfl <;> rfl
section
variable (t : Nat → Bool) (p : Nat) (hp : p < 24)
include hp
theorem WOP1 (h1 : t p = true) {R : Goal} (hn : lentOk R.n [1] = true) (hR : Ok P 28 (loopHead P 28 1) ⟨mkTm 48 [(13, .sl 0 0 1 1), (36, .agg (thsM t)), (37, .cv (ci64 (p + 1)))], [some [.cv (ci64 p)]]⟩ R) :
    Ok P 28 (loopHead P 28 1) ⟨mkTm 48 [(13, .cv (.lit (.slice none 0 0))), (36, .agg (thsM t)), (37, .cv (ci64 p))], []⟩ R :=
 okS (keep := [13, 36, 37]) (σ := [1]) (ors := [(8, Or.b true), (16, Or.stop)]) (by rcases lt24 hp with rfl | rfl | rfl | rfl | rfl | rfl | rfl | rfl | rfl | rfl | rfl | rfl | rfl | rfl | rfl | rfl | rfl | rfl | rfl | rfl | rfl | rfl | rfl | rfl <;> kernel_rfl) rfl
  (.cons (show (0 : Int) ≤ p ∧ (p : Int) < 24 by omega) (.cons h1 (.cons (show 8 ≤ 1099511627776 by decide) (.cons (show 1 ≤ 1099511627776 by decide) (.cons (show 0 < 1 by decide) (.cons (show 1 = 1 from rfl) (.cons (show CvL (own [ci64 p]) from CvL.own _) .nil))))))) hn hR
theorem WOP2 (h1 : t p = false) {R : Goal} (hn : lentOk R.n [] = true) (hR : Ok P 28 (loopHead P 28 1) ⟨mkTm 48 [(13, .cv (.lit (.slice none 0 0))), (36, .agg (thsM t)), (37, .cv (ci64 (p + 1)))], []⟩ R) :
    Ok P 28 (loopHead P 28 1) ⟨mkTm 48 [(13, .cv (.lit (.slice none 0 0))), (36, .agg (thsM t)), (37, .cv (ci64 p))], []⟩ R :=
 okS (keep := [13, 36, 37]) (σ := []) (ors := [(8, Or.b false), (11, Or.stop)]) (by rcases lt24 hp with rfl | rfl | rfl | rfl | rfl | rfl | rfl | rfl | rfl | rfl | rfl | rfl | rfl | rfl | rfl | rfl | rfl | rfl | rfl | rfl | rfl | rfl | rfl | rfl <;> kernel_rfl) rfl
  (.cons (show (0 : Int) ≤ p ∧ (p : Int) < 24 by omega) (.cons h1 .nil)) hn hR
theorem WOQ1 (c : Nat) (out : List CV) (h1 : t p = true) (hc : c < 24) (ho : out.length = c) {R : Goal} (hn : lentOk R.n [2] = true) (hR : Ok P 28 (loopHead P 28 1) ⟨mkTm 48 [(13, .sl 0 0 (c + 1) 1), (36, .agg (thsM t)), (37, .cv (ci64 (p + 1)))], [some (own out ++ own [ci64 p])]⟩ R) :
    Ok P 28 (loopHead P 28 1) ⟨mkTm 48 [(13, .sl 0 0 c 1), (36, .agg (thsM t)), (37, .cv (ci64 p))], [some (own out)]⟩ R :=
 okS (keep := [13, 36, 37]) (σ := [2]) (ors := [(8, Or.b true), (16, Or.stop)]) (by rcases lt24 hp with rfl | rfl | rfl | rfl | rfl | rfl | rfl | rfl | rfl | rfl | rfl | rfl | rfl | rfl | rfl | rfl | rfl | rfl | rfl | rfl | rfl | rfl | rfl | rfl <;> kernel_rfl) rfl
  (.cons (show (0 : Int) ≤ p ∧ (p : Int) < 24 by omega) (.cons h1 (.cons (show (c + 1) * 8 ≤ 1099511627776 by omega) (.cons (show c + 1 ≤ 1099511627776 by omega) (.cons (show (own out).length = c * 1 by simp [own, ho]) (.cons (show OneL (own [ci64 p]) by intro m hm; simp only [own, List.map_cons, List.map_nil, List.mem_cons, List.not_mem_nil, or_false] at hm; subst hm; rfl) (.cons (show 1 = 1 from rfl) (.cons (show CvL (own out ++ own [ci64 p]) by rw [← own_app]; exact CvL.own _) .nil)))))))) hn hR
theorem WOQ2 (c : Nat) (out : List CV) (h1 : t p = false) {R : Goal} (hn : lentOk R.n [0] = true) (hR : Ok P 28 (loopHead P 28 1) ⟨mkTm 48 [(13, .sl 0 0 c 1), (36, .agg (thsM t)), (37, .cv (ci64 (p + 1)))], [some (own out)]⟩ R) :
    Ok P 28 (loopHead P 28 1) ⟨mkTm 48 [(13, .sl 0 0 c 1), (36, .agg (thsM t)), (37, .cv (ci64 p))], [some (own out)]⟩ R :=
 okS (keep := [13, 36, 37]) (σ := [0]) (ors := [(8, Or.b false), (11, Or.stop)]) (by rcases lt24 hp with rfl | rfl | rfl | rfl | rfl | rfl | rfl | rfl | rfl | rfl | rfl | rfl | rfl | rfl | rfl | rfl | rfl | rfl | rfl | rfl | rfl | rfl | rfl | rfl <;> kernel_rfl) rfl
  (.cons (show (0 : Int) ≤ p ∧ (p : Int) < 24 by omega) (.cons h1 (.cons (CvL.own out) .nil))) hn hR
end
end Go.Fw
open Go
namespace Go.Fw
set_option maxRecDepth 100000
def outFrom (t : Nat → Bool) : Nat → Nat → List CV
 | _, 0 => []
 | p, d + 1 => (if t p then [ci64 p] else []) ++ outFrom t (p + 1) d
def outV : List CV → CV
 | [] => .lit (.slice none 0 0)
 | c :: l => .lst (l.length + 1) (c :: l)
theorem WO_list (t : Nat → Bool) {R : Goal} (hn : R.n = 0) : ∀ (d p : Nat) (out : List CV), p + d = 24 → out.length ≤ p → R.c (.tup [.lst (out ++ outFrom t p d).length (out ++ outFrom t p d), ci64 0]) →
    Ok P 28 (loopHead P 28 1) ⟨mkTm 48 [(13, .sl 0 0 out.length 1), (36, .agg (thsM t)), (37, .cv (ci64 p))], [some (own out)]⟩ R
 | 0, p, out, hp, _, hR => by
  have : p = 24 := by omega
  subst this
  refine WOF_p1 t out.length out (by rw [List.drop_zero]; exact List.take_of_length_le (by simp [own])) ?_
  simpa [outFrom] using hR
 | d + 1, p, out, hp, ho, hR => by
  have ih := WO_list t hn d (p + 1)
  cases h : t p with
  | true =>
   refine WOQ1 t p (by omega) out.length out h (by omega) rfl (by rw [hn]; rfl) ?_
   have := ih (out ++ [ci64 p]) (by omega) (by simp; omega) (by simpa [outFrom, h] using hR)
   rw [own_app, List.length_append] at this
   exact this
  | false =>
   refine WOQ2 t p (by omega) out.length out h (by rw [hn]; rfl) ?_
   exact ih out (by omega) (by omega) (by simpa [outFrom, h] using hR)
theorem WO_nil (t : Nat → Bool) {R : Goal} (hn : R.n = 0) : ∀ (d p : Nat), p + d = 24 → R.c (.tup [outV (outFrom t p d), ci64 0]) →
    Ok P 28 (loopHead P 28 1) ⟨mkTm 48 [(13, .cv (.lit (.slice none 0 0))), (36, .agg (thsM t)), (37, .cv (ci64 p))], []⟩ R
 | 0, p, hp, hR => by
  have : p = 24 := by omega
  subst this
  exact WOE_p1 t hR
 | d + 1, p, hp, hR => by
  cases h : t p with
  | true =>
   refine WOP1 t p (by omega) h (by rw [hn]; rfl) ?_
   exact WO_list t hn d (p + 1) [ci64 p] (by omega) (by simp) (by simpa [outFrom, h, outV] using hR)
  | false =>
   refine WOP2 t p (by omega) h (by rw [hn]; rfl) ?_
   exact WO_nil t hn d (p + 1) (by omega) (by simpa [outFrom, h] using hR)
def flatM : List (Int × Bool) → List CV
 | [] => []
 | m :: l => ci64 m.1 :: .lit (.bool m.2) :: flatM l
theorem flatM_app : ∀ (a b : List (Int × Bool)), flatM (a ++ b) = flatM a ++ flatM b
 | [], b => rfl
 | m :: a, b => by simp [flatM, flatM_app a b]
theorem flatM_length : ∀ (a : List (Int × Bool)), (flatM a).length = a.length * 2
 | [] => rfl
 | m :: a => by simp [flatM, flatM_length a]; omega
def motQ (o : Int) (f : Bool) : Nat → List (Int × Bool)
 | 0 => []
 | k + 1 => motQ o f k ++ [(k * (24 / o), f)]
theorem motL_flat (o : Int) (f : Bool) : ∀ k, motL o f k = flatM (motQ o f k)
 | 0 => rfl
 | k + 1 => by rw [motQ, flatM_app, motL, motL_flat o f k]; rfl
theorem motQ_length (o : Int) (f : Bool) : ∀ k, (motQ o f k).length = k
 | 0 => rfl
 | k + 1 => by simp [motQ, motQ_length o f k]
def motP (o : Int) (b : Bool) : List (Int × Bool) := motQ o false o.toNat ++ (if b then motQ o true o.toNat else [])
theorem cellsM_flat (o : Int) (b : Bool) : cellsM o b = flatM (motP o b) := by
 unfold cellsM motP
 rw [flatM_app, motL_flat]
 cases b with
 | true => simp [motL_flat]
 | false => rfl
theorem cntM_length (o : Int) (b : Bool) : cntM o b = (motP o b).length := by
 unfold cntM motP
 cases b <;> simp [motQ_length]
def mark (i : Int) (t : Nat → Bool) (m : Int × Bool) : Nat → Bool := fun x => (idxM m.1 m.2 i).toNat == x || t x
theorem idxM_bd (t : Int) (b : Bool) (i : Int) : 0 ≤ idxM t b i ∧ idxM t b i < 24 := by unfold idxM; split <;> omega
theorem WO_marks {R : Goal} (hn : R.n = 0) (i : Int) : ∀ (l2 l1 : List (Int × Bool)) (t : Nat → Bool), (l1 ++ l2).length ≤ 48 → R.c (.tup [outV (outFrom (l2.foldl (mark i) t) 0 24), ci64 0]) →
    Ok P 28 (loopHead P 28 0) ⟨mkTm 48 [(0, .cv (ci64 i)), (10, .ptr 0 0), (25, .cv (.lst (l1 ++ l2).length (flatM (l1 ++ l2)))), (26, .cv (ci64 (l1 ++ l2).length)), (27, .cv (ci64 l1.length))], [some (own (thsC t))]⟩ R
 | [], l1, t, hl, hR => by
  refine WOX_p1 i _ _ (decide_eq_false (by simp)) _ t (by rw [hn]; rfl) ?_
  exact WO_nil t hn 24 0 rfl hR
 | m :: l2, l1, t, hl, hR => by
  have hb := idxM_bd m.1 m.2 i
  have e1 : i = i := rfl
  refine WOL_p1 i _ _ m.1 m.2 _ _ (decide_eq_true (by simp; omega)) (by simp; omega) ?_ hb (by show 0 + (idxM m.1 m.2 i).toNat * 1 + 1 ≤ 24; omega) ?_ (by rw [hn]; rfl) ?_
  · rw [flatM_app]
    have : (l1.length : Int).toNat * 2 = (flatM l1).length := by rw [flatM_length]; simp
    rw [this, List.drop_left]; rfl
  · rw [orb_set t (by omega)]; exact CvL.own _
  · rw [orb_set t (by omega), w64 (by simp at hl; omega)]
    have := WO_marks hn i l2 (l1 ++ [m]) (mark i t m) (by simpa using hl) (by simpa using hR)
    rw [show l1 ++ m :: l2 = (l1 ++ [m]) ++ l2 by simp, show ((l1.length : Int) + 1) = ((l1 ++ [m]).length : Int) by simp]
    exact this
def orbT (o : Int) (b : Bool) (i : Int) : Nat → Bool := (motP o b).foldl (mark i) (fun _ => false)
theorem WOrb_ok (i o : Int) (b : Bool) (ho : okO o) : PCall P 28 [ci64 i, ci64 o, .lit (.bool b)] (.tup [outV (outFrom (orbT o b i) 0 24), ci64 0]) := by
 refine WOrb_p1 i o b ho (R := (· = _)) ?_
 have h1 := ho.1
 have h2 := ho.2.1
 have := WO_marks (R := (· = CV.tup [outV (outFrom (orbT o b i) 0 24), ci64 0])) rfl i (motP o b) [] (fun _ => false) (by simp only [List.nil_append, ← cntM_length, cntM]; split <;> omega) rfl
 simp only [List.nil_append] at this
 rw [← cellsM_flat, ← cntM_length] at this
 exact this
end Go.Fw
open Go
namespace Go.Fw
set_option maxRecDepth 100000
theorem aOrb : PCall P 28 [ci64 1, ci64 8, .lit (.bool true)] (.tup [.lst 16 [ci64 1, ci64 2, ci64 4, ci64 5, ci64 7, ci64 8, ci64 10, ci64 11, ci64 13, ci64 14, ci64 16, ci64 17, ci64 19, ci64 20, ci64 22, ci64 23], ci64 0]) := (WOrb_ok 1 8 true (by unfold okO; decide)).eq (by kernel_rfl)
theorem aCos : PCall P 33 [ci64 1] (n5C 0 1 0 1 4) := (WCos_spec 1).eq (by kernel_rfl)
theorem aPrint : PCall P 120 [n5C 0 1 0 1 4] (.lit (.string ⟨#[49, 47, 52, 114, 50, 43, 49, 47, 52, 114, 54]⟩)) := pPr_p1.eq (by kernel_rfl)
theorem aVal : PCall P 55 [.agg [ci64 5, .lit (.bool false)]] (.lit (.bool true)) := WValid_spec 5 false
end Go.Fw
open Go IntKind
namespace Go.Fw
set_option maxRecDepth 100000
theorem aw_p1 : PCall P 25 [] (.lit (.bool true)) :=
 pcallT (.r 1 (aOrb) (.c (bq 0 16) (.c (bq 15 16) (.r 27 (aCos) (.r 28 (aPrint) (.r 33 (aVal) .nil)))))) (by kernel_rfl)
end Go.Fw
open Go
namespace Go.Fw
set_option maxRecDepth 100000
def sm3b (x : K) : Bool := decide (x.c0.natAbs < 256) && decide (x.c1.natAbs < 256) && decide (x.c2.natAbs < 256) && decide (x.c3.natAbs < 256) && decide (x.d.natAbs < 256)
theorem Sm3.b {x : K} (h : sm3b x = true) : Sm3 x := by
 simp only [sm3b, Bool.and_eq_true, decide_eq_true_eq] at h
 exact Sm3.of ⟨h.1.1.1.1, h.1.1.1.2, h.1.1.2, h.1.2, h.2⟩
theorem cosK_mod (i : Int) : cosK i = cosK (i % 24) := by simp only [cosK, Int.emod_emod_of_dvd i (Int.dvd_refl 24)]
theorem sinK_mod (i : Int) : sinK i = sinK (i % 24) := by simp only [sinK, Int.emod_emod_of_dvd i (Int.dvd_refl 24)]
theorem cosK_cong {i j : Int} (h : i % 24 = j % 24) : cosK i = cosK j := by rw [cosK_mod i, cosK_mod j, h]
theorem sinK_cong {i j : Int} (h : i % 24 = j % 24) : sinK i = sinK j := by rw [sinK_mod i, sinK_mod j, h]
theorem circ2 : ∀ i k : _root_.Fin 24, cosK (i.val + k.val) = cosK i.val * cosK k.val - sinK i.val * sinK k.val := by decide +kernel
theorem circ3 : ∀ i k : _root_.Fin 24, sinK (i.val + k.val) = sinK i.val * cosK k.val + cosK i.val * sinK k.val := by decide +kernel
theorem circ4 : ∀ i : _root_.Fin 24, sm3b (cosK i.val) = true ∧ sm3b (sinK i.val) = true := by decide +kernel
theorem circ6 : ∀ i : _root_.Fin 24, cosK (-i.val) = cosK i.val ∧ sinK (-i.val) = -sinK i.val := by decide +kernel
theorem ex24 (i : Int) : ∃ a : _root_.Fin 24, i % 24 = (a.val : Int) := ⟨⟨(i % 24).toNat, by omega⟩, by simp only; omega⟩
theorem cos_at {i : Int} {a : _root_.Fin 24} (h : i % 24 = (a.val : Int)) : cosK i = cosK a.val := by rw [cosK_mod i, h]
theorem sin_at {i : Int} {a : _root_.Fin 24} (h : i % 24 = (a.val : Int)) : sinK i = sinK a.val := by rw [sinK_mod i, h]
theorem cos_add (i k : Int) : cosK (i + k) = cosK i * cosK k - sinK i * sinK k := by
 obtain ⟨a, ha⟩ := ex24 i
 obtain ⟨b, hb⟩ := ex24 k
 rw [cos_at ha, sin_at ha, cos_at hb, sin_at hb, ← circ2]
 exact cosK_cong (by omega)
theorem sin_add (i k : Int) : sinK (i + k) = sinK i * cosK k + cosK i * sinK k := by
 obtain ⟨a, ha⟩ := ex24 i
 obtain ⟨b, hb⟩ := ex24 k
 rw [cos_at ha, sin_at ha, cos_at hb, sin_at hb, ← circ3]
 exact sinK_cong (by omega)
theorem cos_neg (i : Int) : cosK (-i) = cosK i := by
 obtain ⟨a, ha⟩ := ex24 i
 rw [cos_at ha, ← (circ6 a).1]
 exact cosK_cong (by omega)
theorem sin_neg (i : Int) : sinK (-i) = -sinK i := by
 obtain ⟨a, ha⟩ := ex24 i
 rw [sin_at ha, ← (circ6 a).2]
 exact sinK_cong (by omega)
end Go.Fw
open Go
namespace Go.Fw
def numL (x : K) : List CV := [.lit (.bool (decide (x.c0 < 0))), cstr (bytesOf x.c0.natAbs), .lit (.bool (decide (x.c1 < 0))), cstr (bytesOf x.c1.natAbs), .lit (.bool (decide (x.c2 < 0))), cstr (bytesOf x.c2.natAbs), .lit (.bool (decide (x.c3 < 0))), cstr (bytesOf x.c3.natAbs), .lit (.bool (decide (x.d < 0))), cstr (bytesOf x.d.natAbs)]
def vecC (x y z : K) : CV := .agg (numL x ++ (numL y ++ numL z))
end Go.Fw
open Go
namespace Go.Fw
set_option maxRecDepth 100000
structure RN where
 b0 : Bool
 s0 : ByteArray
 b1 : Bool
 s1 : ByteArray
 b2 : Bool
 s2 : ByteArray
 b3 : Bool
 s3 : ByteArray
 b4 : Bool
 s4 : ByteArray
namespace RN
def l (x : RN) : List CV := [.lit (.bool x.b0), cstr x.s0, .lit (.bool x.b1), cstr x.s1, .lit (.bool x.b2), cstr x.s2, .lit (.bool x.b3), cstr x.s3, .lit (.bool x.b4), cstr x.s4]
def raw (n : Nat) (x : RN) : Bool := decide (x.s0.size ≤ n) && decide (x.s1.size ≤ n) && decide (x.s2.size ≤ n) && decide (x.s3.size ≤ n) && decide (x.s4.size ≤ n)
def ok (x : RN) : Bool := validB x.b0 x.s0 && validB x.b1 x.s1 && validB x.b2 x.s2 && validB x.b3 x.s3 && validB x.b4 x.s4 && decide (0 < zOf x.b4 x.s4) && decide (gcd5 (zOf x.b0 x.s0) (zOf x.b1 x.s1) (zOf x.b2 x.s2) (zOf x.b3 x.s3) (zOf x.b4 x.s4) = 1)
theorem l_n5 {x : RN} (h0 : validB x.b0 x.s0 = true) (h1 : validB x.b1 x.s1 = true) (h2 : validB x.b2 x.s2 = true) (h3 : validB x.b3 x.s3 = true) (h4 : validB x.b4 x.s4 = true) :
    CV.agg x.l = n5C (zOf x.b0 x.s0) (zOf x.b1 x.s1) (zOf x.b2 x.s2) (zOf x.b3 x.s3) (zOf x.b4 x.s4) := by
 obtain ⟨a0, c0, d0⟩ := valid_raw h0
 obtain ⟨a1, c1, d1⟩ := valid_raw h1
 obtain ⟨a2, c2, d2⟩ := valid_raw h2
 obtain ⟨a3, c3, d3⟩ := valid_raw h3
 obtain ⟨a4, c4, d4⟩ := valid_raw h4
 have e0 := raw_int h0
 have e1 := raw_int h1
 have e2 := raw_int h2
 have e3 := raw_int h3
 have e4 := raw_int h4
 unfold intC at e0 e1 e2 e3 e4
 simp only [CV.agg.injEq, List.cons.injEq, and_true] at e0 e1 e2 e3 e4
 unfold l
 rw [e0.1, e0.2, e1.1, e1.2, e2.1, e2.2, e3.1, e3.2, e4.1, e4.2]
 rfl
theorem ok_k {x : RN} (h : x.ok = true) : ∃ k : K, x.l = numL k := by
 unfold ok at h
 simp only [Bool.and_eq_true, decide_eq_true_eq] at h
 obtain ⟨⟨⟨⟨⟨⟨h0, h1⟩, h2⟩, h3⟩, h4⟩, h5⟩, h6⟩ := h
 have e := l_n5 h0 h1 h2 h3 h4
 refine ⟨⟨_, _, _, _, _, h5, h6⟩, ?_⟩
 injection e
end RN
theorem Sml.str {s : ByteArray} (h : s.size ≤ 1000000) : Sml (strVal s) := Sml.of_lt (Nat.lt_of_lt_of_le (strVal_lt s) (Nat.pow_le_pow_right (by decide) h)) (by decide)
theorem sign_pos_b (z : Int) : decide (z.sign > 0) = decide (0 < z) := by
 rw [decide_eq_decide]; exact Int.sign_pos_iff
theorem SmlZ_raw {b : Bool} {s : ByteArray} (hv : validB b s = true) (h : s.size ≤ 1000000) : SmlZ (zOf b s) := by
 show Sml (zOf b s).natAbs
 rw [(valid_raw hv).2.2]; exact Sml.str h
theorem FVal_raw (x : RN) (hs : x.raw 1000000 = true) : PCall P 154 [.agg x.l] (.lit (.bool x.ok)) := by
 cases v0 : validB x.b0 x.s0
 · refine (fvr_p6 x.b0 x.b1 x.b2 x.b3 x.b4 x.s0 x.s1 x.s2 x.s3 x.s4 v0).eqB ?_
   simp [RN.ok, v0]
 cases v1 : validB x.b1 x.s1
 · refine (fvr_p5 x.b0 x.b1 x.b2 x.b3 x.b4 x.s0 x.s1 x.s2 x.s3 x.s4 v0 v1).eqB ?_
   simp [RN.ok, v1]
 cases v2 : validB x.b2 x.s2
 · refine (fvr_p4 x.b0 x.b1 x.b2 x.b3 x.b4 x.s0 x.s1 x.s2 x.s3 x.s4 v0 v1 v2).eqB ?_
   simp [RN.ok, v2]
 cases v3 : validB x.b3 x.s3
 · refine (fvr_p3 x.b0 x.b1 x.b2 x.b3 x.b4 x.s0 x.s1 x.s2 x.s3 x.s4 v0 v1 v2 v3).eqB ?_
   simp [RN.ok, v3]
 cases v4 : validB x.b4 x.s4
 · refine (fvr_p2 x.b0 x.b1 x.b2 x.b3 x.b4 x.s0 x.s1 x.s2 x.s3 x.s4 v0 v1 v2 v3 v4).eqB ?_
   simp [RN.ok, v4]
 simp only [RN.raw, Bool.and_eq_true, decide_eq_true_eq] at hs
 obtain ⟨⟨⟨⟨z0, z1⟩, z2⟩, z3⟩, z4⟩ := hs
 rw [RN.l_n5 v0 v1 v2 v3 v4]
 have hok : x.ok = (decide (0 < zOf x.b4 x.s4) && decide (gcd5 (zOf x.b0 x.s0) (zOf x.b1 x.s1) (zOf x.b2 x.s2) (zOf x.b3 x.s3) (zOf x.b4 x.s4) = 1)) := by
  simp only [RN.ok, v0, v1, v2, v3, v4, Bool.true_and]
 rw [hok]
 by_cases hp : 0 < zOf x.b4 x.s4
 · refine (FValid_p1 _ _ _ _ _ (by rw [sign_pos_b]; exact decide_eq_true hp) (SmlZ_raw v0 z0) (SmlZ_raw v1 z1) (SmlZ_raw v2 z2) (SmlZ_raw v3 z3) (SmlZ_raw v4 z4) (by decide)).eqB ?_
   rw [decide_eq_true hp, Bool.true_and]
   simp only [Int.natAbs_natCast, bytes_beq, Bool.and_true]
   rw [decide_eq_false (by omega)]
   rfl
 · refine (FValid_p2 _ _ _ _ _ (by rw [sign_pos_b]; exact decide_eq_false hp)).eqB ?_
   rw [decide_eq_false hp, Bool.false_and]
end Go.Fw
open Go
namespace Go.Fw
set_option maxRecDepth 100000
def RN.c (x : RN) : CV := r5 x.b0 x.b1 x.b2 x.b3 x.b4 x.s0 x.s1 x.s2 x.s3 x.s4
def vecR (x y z : RN) : CV := .agg (x.l ++ (y.l ++ z.l))
theorem FVal_c (x : RN) (hs : x.raw 1000000 = true) : PCall P 154 [x.c] (.lit (.bool x.ok)) := FVal_raw x hs
end Go.Fw
open Go IntKind
namespace Go.Fw
set_option maxRecDepth 100000
theorem RRw_p1 (x : RN) (h1 : decide ((↑x.s0.size : Int) > 12) = true) : PCall P 74 [x.c, ci64 12] (.lit (.bool false)) :=
 pcallT (.c (bq 0 4) (.b 15 h1 .nil)) (by kernel_rfl)
theorem RRw_p2 (x : RN) (h1 : decide ((↑x.s0.size : Int) > 12) = false) (h2 : decide ((↑x.s1.size : Int) > 12) = true) : PCall P 74 [x.c, ci64 12] (.lit (.bool false)) :=
 pcallT (.c (bq 0 4) (.b 15 h1 (.c (bq 1 4) (.b 31 h2 .nil)))) (by kernel_rfl)
theorem RRw_p3 (x : RN) (h1 : decide ((↑x.s0.size : Int) > 12) = false) (h2 : decide ((↑x.s1.size : Int) > 12) = false) (h3 : decide ((↑x.s2.size : Int) > 12) = true) : PCall P 74 [x.c, ci64 12] (.lit (.bool false)) :=
 pcallT (.c (bq 0 4) (.b 15 h1 (.c (bq 1 4) (.b 31 h2 (.c (bq 2 4) (.b 47 h3 .nil)))))) (by kernel_rfl)
theorem RRw_p4 (x : RN) (h1 : decide ((↑x.s0.size : Int) > 12) = false) (h2 : decide ((↑x.s1.size : Int) > 12) = false) (h3 : decide ((↑x.s2.size : Int) > 12) = false) (h4 : decide ((↑x.s3.size : Int) > 12) = true) : PCall P 74 [x.c, ci64 12] (.lit (.bool false)) :=
 pcallT (.c (bq 0 4) (.b 15 h1 (.c (bq 1 4) (.b 31 h2 (.c (bq 2 4) (.b 47 h3 (.c (bq 3 4) (.b 63 h4 .nil)))))))) (by kernel_rfl)
theorem RRw_p5 (x : RN) (h1 : decide ((↑x.s0.size : Int) > 12) = false) (h2 : decide ((↑x.s1.size : Int) > 12) = false) (h3 : decide ((↑x.s2.size : Int) > 12) = false) (h4 : decide ((↑x.s3.size : Int) > 12) = false) : PCall P 74 [x.c, ci64 12] (.lit (.bool (decide ((↑x.s4.size : Int) ≤ 12)))) :=
 pcallT (.c (bq 0 4) (.b 15 h1 (.c (bq 1 4) (.b 31 h2 (.c (bq 2 4) (.b 47 h3 (.c (bq 3 4) (.b 63 h4 .nil)))))))) (by kernel_rfl)
theorem wri_p1 (x y z : RN) (h1 : (x.ok) = true) (h2 : (y.ok) = true) (h3 : (z.ok) = true) (s4_0 : RN.raw 1000000 x = true) (s8_0 : RN.raw 1000000 y = true) (s13_0 : RN.raw 1000000 z = true) : PCall P 134 [vecR x y z] (.lit (.bool true)) :=
 pcallT (.r 4 ((FVal_c (x) s4_0).eqB h1) (.r 8 ((FVal_c (y) s8_0).eqB h2) (.r 13 ((FVal_c (z) s13_0).eqB h3) .nil))) (by kernel_rfl)
theorem wri_p2 (x y z : RN) (h1 : (x.ok) = true) (h2 : (y.ok) = true) (h3 : (z.ok) = false) (s4_0 : RN.raw 1000000 x = true) (s8_0 : RN.raw 1000000 y = true) (s13_0 : RN.raw 1000000 z = true) : PCall P 134 [vecR x y z] (.lit (.bool false)) :=
 pcallT (.r 4 ((FVal_c (x) s4_0).eqB h1) (.r 8 ((FVal_c (y) s8_0).eqB h2) (.r 13 ((FVal_c (z) s13_0).eqB h3) .nil))) (by kernel_rfl)
theorem wri_p3 (x y z : RN) (h1 : (x.ok) = true) (h2 : (y.ok) = false) (s4_0 : RN.raw 1000000 x = true) (s8_0 : RN.raw 1000000 y = true) : PCall P 134 [vecR x y z] (.lit (.bool false)) :=
 pcallT (.r 4 ((FVal_c (x) s4_0).eqB h1) (.r 8 ((FVal_c (y) s8_0).eqB h2) .nil)) (by kernel_rfl)
theorem wri_p4 (x y z : RN) (h1 : (x.ok) = false) (s4_0 : RN.raw 1000000 x = true) : PCall P 134 [vecR x y z] (.lit (.bool false)) :=
 pcallT (.r 4 ((FVal_c (x) s4_0).eqB h1) .nil) (by kernel_rfl)
end Go.Fw
open Go
namespace Go.Fw
set_option maxRecDepth 100000
def RN.ofK (x : K) : RN := ⟨decide (x.c0 < 0), bytesOf x.c0.natAbs, decide (x.c1 < 0), bytesOf x.c1.natAbs, decide (x.c2 < 0), bytesOf x.c2.natAbs, decide (x.c3 < 0), bytesOf x.c3.natAbs, decide (x.d < 0), bytesOf x.d.natAbs⟩
theorem RN.ofK_l (x : K) : (RN.ofK x).l = numL x := rfl
theorem RN.ofK_ok (x : K) : (RN.ofK x).ok = true := by
 unfold RN.ok RN.ofK
 simp only [validB_int, zOf_int, Bool.true_and, Bool.and_eq_true, decide_eq_true_eq]
 exact ⟨x.pos, x.cop⟩
theorem RN.ofK_raw (x : K) {n : Nat} (h : x.sz ≤ n) : (RN.ofK x).raw n = true := by
 obtain ⟨h0, h1, h2, h3, h4⟩ := K.sz_le.1 h
 unfold RN.raw RN.ofK
 simp only [Bool.and_eq_true, decide_eq_true_eq]
 exact ⟨⟨⟨⟨size_le.2 h0, size_le.2 h1⟩, size_le.2 h2⟩, size_le.2 h3⟩, size_le.2 h4⟩
end Go.Fw
open Go
namespace Go.Fw
set_option maxRecDepth 100000
theorem mul_lt_pow {a b n m : Nat} (ha : a < 256 ^ n) (hb : b < 256 ^ m) : a * b < 256 ^ (n + m) := by
 rw [Nat.pow_add]
 exact Nat.mul_lt_mul'' ha hb
theorem add_lt_pow {a b n : Nat} (ha : a < 256 ^ n) (hb : b < 256 ^ n) : a + b < 256 ^ (n + 1) := by
 rw [Nat.pow_succ]; omega
theorem mono_pow {a n m : Nat} (ha : a < 256 ^ n) (h : n ≤ m) : a < 256 ^ m := Nat.lt_of_lt_of_le ha (Nat.pow_le_pow_right (by decide) h)
def By (n : Nat) (a : Int) : Prop := a.natAbs < 256 ^ n
theorem By.mul {n m : Nat} {a b : Int} (ha : By n a) (hb : By m b) : By (n + m) (a * b) := by
 unfold By; rw [Int.natAbs_mul]; exact mul_lt_pow ha hb
theorem By.mono {n m : Nat} {a : Int} (h : By n a) (hm : n ≤ m) : By m a := mono_pow h hm
theorem By.add {n : Nat} {a b : Int} (ha : By n a) (hb : By n b) : By (n + 1) (a + b) := Nat.lt_of_le_of_lt (Int.natAbs_add_le ..) (add_lt_pow ha hb)
theorem By.neg {n : Nat} {a : Int} (h : By n a) : By n (-a) := by unfold By; rw [Int.natAbs_neg]; exact h
end Go.Fw
open Go
namespace Go.Fw
set_option maxRecDepth 100000
def f4 (a b c d : Int) : Nat → Int
 | 0 => a
 | 1 => b
 | 2 => c
 | _ => d
def By4 (n : Nat) (a b c d : Int) : Prop := By n a ∧ By n b ∧ By n c ∧ By n d
theorem By4.f {n : Nat} {a b c d : Int} (h : By4 n a b c d) (i : Nat) : (f4 a b c d i).natAbs < 256 ^ n := by
 obtain ⟨h0, h1, h2, h3⟩ := h
 match i with
 | 0 => exact h0
 | 1 => exact h1
 | 2 => exact h2
 | n + 3 => exact h3
end Go.Fw
open Go IntKind
namespace Go.Fw
set_option maxRecDepth 100000
theorem FSub_p1 (x y : K) (s5_0 : Smk y) (s6_0 : x.sz + (-y).sz + 2 < 1073741824) : PCall P 135 [numC x, numC y] (numC (x + -y)) :=
 pcallT (.r 5 (FNeg_K (y) s5_0) (.r 6 (FAdd_K (x) (-y) s6_0) (.c (lq 10 10) .nil))) (by kernel_rfl)
theorem WRi_p1 (x y z : K) (s4_0 : Smk x) (s8_0 : Smk y) (s13_0 : Smk z) : PCall P 134 [vecC x y z] (.lit (.bool true)) :=
 pcallT (.r 4 (FValid_K (x) s4_0) (.r 8 (FValid_K (y) s8_0) (.r 13 (FValid_K (z) s13_0) .nil))) (by kernel_rfl)
theorem WMo_p1 (k : Int) : PCall P 57 [.lit (.int .u8 k)] (.agg [.lit (.int .i64 ((i64.wrap k).tmod 24)), .lit (.bool (decide (k ≥ 128)))]) :=
 pcallT (.c (nz 24) (.c (lq 2 2) .nil)) (by kernel_rfl)
end Go.Fw
open Go
namespace Go.Fw
theorem FSub_K (x y : K) (h : x.sz + y.sz + 2 < 1073741824) : PCall P 135 [numC x, numC y] (numC (x - y)) := FSub_p1 x y (by simp only [Smk]; omega) (by rw [K.sz_neg]; exact h)
end Go.Fw
open Go IntKind
namespace Go.Fw
set_option maxRecDepth 100000
theorem WTu_p1 (x y z : K) (i : Int) (s3_0 : Smk x) (s3_1 : Smk y) (s3_2 : Smk z) (s17_0 : x.sz + (cosK i).sz + 2 < 1073741824) (s21_0 : y.sz + (sinK i).sz + 2 < 1073741824) (s22_0 : (x * cosK i).sz + (y * sinK i).sz + 2 < 1073741824) (s26_0 : x.sz + (sinK i).sz + 2 < 1073741824) (s30_0 : y.sz + (cosK i).sz + 2 < 1073741824) (s31_0 : (x * sinK i).sz + (y * cosK i).sz + 2 < 1073741824) : PCall P 49 [vecC x y z, ci64 i] (vecC (x * cosK i - y * sinK i) (x * sinK i + y * cosK i) z) :=
 pcallT (.r 3 (WRi_p1 (x) (y) (z) s3_0 s3_1 s3_2) (.r 7 (WCos_spec (i)) (.r 9 (WSin_spec (i)) (.c (lq 10 10) (.c (lq 10 10) (.r 17 (FMul_K (x) (cosK i) s17_0) (.r 21 (FMul_K (y) (sinK i) s21_0) (.r 22 (FSub_K (x * cosK i) (y * sinK i) s22_0) (.r 26 (FMul_K (x) (sinK i) s26_0) (.r 30 (FMul_K (y) (cosK i) s30_0) (.r 31 (FAdd_K (x * sinK i) (y * cosK i) s31_0) (.c (lq 30 30) .nil)))))))))))) (by kernel_rfl)
theorem WFl_p1 (x y z : K) (s3_0 : Smk x) (s3_1 : Smk y) (s3_2 : Smk z) (s8_0 : Smk y) : PCall P 51 [vecC x y z] (vecC x (-y) z) :=
 pcallT (.r 3 (WRi_p1 (x) (y) (z) s3_0 s3_1 s3_2) (.r 8 (FNeg_K (y) s8_0) (.c (lq 20 30) (.c (lq 30 30) .nil)))) (by kernel_rfl)
end Go.Fw
open Go
namespace Go.Fw
set_option maxRecDepth 100000
theorem sz_small {x : K} (h : sm3b x = true) : x.sz ≤ 1 := by
 simp only [sm3b, Bool.and_eq_true, decide_eq_true_eq] at h
 rw [K.sz_le]
 exact ⟨h.1.1.1.1, h.1.1.1.2, h.1.1.2, h.1.2, h.2⟩
theorem sz_cos (i : Int) : (cosK i).sz ≤ 1 := by
 obtain ⟨a, ha⟩ := ex24 i
 rw [cos_at ha]; exact sz_small (circ4 a).1
theorem sz_sin (i : Int) : (sinK i).sz ≤ 1 := by
 obtain ⟨a, ha⟩ := ex24 i
 rw [sin_at ha]; exact sz_small (circ4 a).2
theorem WTurn_K (x y z : K) (i : Int) (hx : x.sz ≤ 1000000) (hy : y.sz ≤ 1000000) (hz : z.sz ≤ 1000000) :
    PCall P 49 [vecC x y z, ci64 i] (vecC (x * cosK i - y * sinK i) (x * sinK i + y * cosK i) z) := by
 have c := sz_cos i
 have s := sz_sin i
 have m1 := K.sz_mul x (cosK i)
 have m2 := K.sz_mul y (sinK i)
 have m3 := K.sz_mul x (sinK i)
 have m4 := K.sz_mul y (cosK i)
 exact WTu_p1 x y z i (by simp only [Smk]; omega) (by simp only [Smk]; omega) (by simp only [Smk]; omega) (by omega) (by omega) (by omega) (by omega) (by omega) (by omega)
theorem WFlip_K (x y z : K) (hx : x.sz ≤ 1000000) (hy : y.sz ≤ 1000000) (hz : z.sz ≤ 1000000) : PCall P 51 [vecC x y z] (vecC x (-y) z) :=
 WFl_p1 x y z (by simp only [Smk]; omega) (by simp only [Smk]; omega) (by simp only [Smk]; omega) (by simp only [Smk]; omega)
end Go.Fw
open Go IntKind
namespace Go.Fw
set_option maxRecDepth 100000
theorem WMv_p1 (x y z : K) (t : Int) (b : Bool) (h1 : (validM t) = true) (h2 : (b) = true) (s11_0 : x.sz ≤ 1000000) (s11_1 : y.sz ≤ 1000000) (s11_2 : z.sz ≤ 1000000) (s16_0 : x.sz ≤ 1000000) (s16_1 : (-y).sz ≤ 1000000) (s16_2 : z.sz ≤ 1000000) : PCall P 53 [vecC x y z, .agg [ci64 t, .lit (.bool b)]] (.agg [.lit (.bool (decide ((x * cosK t - -y * sinK t).c0 < 0))), .lit (.string (bytesOf (x * cosK t - -y * sinK t).c0.natAbs)), .lit (.bool (decide ((x * cosK t - -y * sinK t).c1 < 0))), .lit (.string (bytesOf (x * cosK t - -y * sinK t).c1.natAbs)), .lit (.bool (decide ((x * cosK t - -y * sinK t).c2 < 0))), .lit (.string (bytesOf (x * cosK t - -y * sinK t).c2.natAbs)), .lit (.bool (decide ((x * cosK t - -y * sinK t).c3 < 0))), .lit (.string (bytesOf (x * cosK t - -y * sinK t).c3.natAbs)), .lit (.bool (decide ((x * cosK t - -y * sinK t).d < 0))), .lit (.string (bytesOf (x * cosK t - -y * sinK t).d.natAbs)), .lit (.bool (decide ((x * sinK t + -y * cosK t).c0 < 0))), .lit (.string (bytesOf (x * sinK t + -y * cosK t).c0.natAbs)), .lit (.bool (decide ((x * sinK t + -y * cosK t).c1 < 0))), .lit (.string (bytesOf (x * sinK t + -y * cosK t).c1.natAbs)), .lit (.bool (decide ((x * sinK t + -y * cosK t).c2 < 0))), .lit (.string (bytesOf (x * sinK t + -y * cosK t).c2.natAbs)), .lit (.bool (decide ((x * sinK t + -y * cosK t).c3 < 0))), .lit (.string (bytesOf (x * sinK t + -y * cosK t).c3.natAbs)), .lit (.bool (decide ((x * sinK t + -y * cosK t).d < 0))), .lit (.string (bytesOf (x * sinK t + -y * cosK t).d.natAbs)), .lit (.bool (decide (z.c0 < 0))), .lit (.string (bytesOf z.c0.natAbs)), .lit (.bool (decide (z.c1 < 0))), .lit (.string (bytesOf z.c1.natAbs)), .lit (.bool (decide (z.c2 < 0))), .lit (.string (bytesOf z.c2.natAbs)), .lit (.bool (decide (z.c3 < 0))), .lit (.string (bytesOf z.c3.natAbs)), .lit (.bool (decide (z.d < 0))), .lit (.string (bytesOf z.d.natAbs))]) :=
 pcallT (.r 4 ((WValid_spec (t) (b)).eqB h1) (.b 9 h2 (.r 11 (WFlip_K (x) (y) (z) s11_0 s11_1 s11_2) (.c (lq 30 30) (.r 16 (WTurn_K (x) (-y) (z) (t) s16_0 s16_1 s16_2) (.c (lq 30 30) .nil)))))) (by kernel_rfl)
theorem WMv_p2 (x y z : K) (t : Int) (b : Bool) (h1 : (validM t) = true) (h2 : (b) = false) (s13_0 : x.sz ≤ 1000000) (s13_1 : y.sz ≤ 1000000) (s13_2 : z.sz ≤ 1000000) : PCall P 53 [vecC x y z, .agg [ci64 t, .lit (.bool b)]] (.agg [.lit (.bool (decide ((x * cosK t - y * sinK t).c0 < 0))), .lit (.string (bytesOf (x * cosK t - y * sinK t).c0.natAbs)), .lit (.bool (decide ((x * cosK t - y * sinK t).c1 < 0))), .lit (.string (bytesOf (x * cosK t - y * sinK t).c1.natAbs)), .lit (.bool (decide ((x * cosK t - y * sinK t).c2 < 0))), .lit (.string (bytesOf (x * cosK t - y * sinK t).c2.natAbs)), .lit (.bool (decide ((x * cosK t - y * sinK t).c3 < 0))), .lit (.string (bytesOf (x * cosK t - y * sinK t).c3.natAbs)), .lit (.bool (decide ((x * cosK t - y * sinK t).d < 0))), .lit (.string (bytesOf (x * cosK t - y * sinK t).d.natAbs)), .lit (.bool (decide ((x * sinK t + y * cosK t).c0 < 0))), .lit (.string (bytesOf (x * sinK t + y * cosK t).c0.natAbs)), .lit (.bool (decide ((x * sinK t + y * cosK t).c1 < 0))), .lit (.string (bytesOf (x * sinK t + y * cosK t).c1.natAbs)), .lit (.bool (decide ((x * sinK t + y * cosK t).c2 < 0))), .lit (.string (bytesOf (x * sinK t + y * cosK t).c2.natAbs)), .lit (.bool (decide ((x * sinK t + y * cosK t).c3 < 0))), .lit (.string (bytesOf (x * sinK t + y * cosK t).c3.natAbs)), .lit (.bool (decide ((x * sinK t + y * cosK t).d < 0))), .lit (.string (bytesOf (x * sinK t + y * cosK t).d.natAbs)), .lit (.bool (decide (z.c0 < 0))), .lit (.string (bytesOf z.c0.natAbs)), .lit (.bool (decide (z.c1 < 0))), .lit (.string (bytesOf z.c1.natAbs)), .lit (.bool (decide (z.c2 < 0))), .lit (.string (bytesOf z.c2.natAbs)), .lit (.bool (decide (z.c3 < 0))), .lit (.string (bytesOf z.c3.natAbs)), .lit (.bool (decide (z.d < 0))), .lit (.string (bytesOf z.d.natAbs))]) :=
 pcallT (.r 4 ((WValid_spec (t) (b)).eqB h1) (.b 9 h2 (.r 13 (WTurn_K (x) (y) (z) (t) s13_0 s13_1 s13_2) (.c (lq 30 30) .nil)))) (by kernel_rfl)
end Go.Fw
open Go
namespace Go.Fw
set_option maxRecDepth 100000
def mvX (x y : K) (t : Int) (b : Bool) : K := x * cosK t - (if b then -y else y) * sinK t
def mvY (x y : K) (t : Int) (b : Bool) : K := x * sinK t + (if b then -y else y) * cosK t
def zeroNum : List CV := [.lit (.bool false), cstr ⟨#[]⟩, .lit (.bool false), cstr ⟨#[]⟩, .lit (.bool false), cstr ⟨#[]⟩, .lit (.bool false), cstr ⟨#[]⟩, .lit (.bool false), cstr ⟨#[]⟩]
def zeroVec : CV := .agg (zeroNum ++ (zeroNum ++ zeroNum))
theorem WMove_K (x y z : K) (t : Int) (b : Bool) (ht : validM t = true) (hx : x.sz ≤ 1000000) (hy : y.sz ≤ 1000000) (hz : z.sz ≤ 1000000) :
    PCall P 53 [vecC x y z, .agg [ci64 t, .lit (.bool b)]] (vecC (mvX x y t b) (mvY x y t b) z) := by
 cases b with
 | true => exact WMv_p1 x y z t true ht rfl hx hy hz hx (by rw [K.sz_neg]; exact hy) hz
 | false => exact WMv_p2 x y z t false ht rfl hx hy hz
theorem motT_spec (k : Int) (hk : (Lit.int .u8 k).wf = true) : PCall P 57 [.lit (.int .u8 k)] (.agg [ci64 (k % 24), .lit (.bool (decide (k ≥ 128)))]) := by
 simp only [Lit.wf, Bool.and_eq_true, decide_eq_true_eq] at hk
 have ei : IntKind.u8.min = 0 ∧ IntKind.u8.max = 255 := by decide
 rw [ei.1, ei.2] at hk
 refine (WMo_p1 k).eq ?_
 rw [w64 (by omega), Int.tmod_eq_emod_of_nonneg (by omega)]
end Go.Fw
open Go
namespace Go.Fw
set_option maxRecDepth 100000
theorem RRaw_c (x : RN) : PCall P 74 [x.c, ci64 12] (.lit (.bool (x.raw 12))) := by
 have big : ∀ {n : Nat}, ¬ n ≤ 12 → decide ((n : Int) > 12) = true := fun h => decide_eq_true (by omega)
 have sml : ∀ {n : Nat}, n ≤ 12 → decide ((n : Int) > 12) = false := fun h => decide_eq_false (by omega)
 unfold RN.raw
 by_cases h0 : x.s0.size ≤ 12
 · by_cases h1 : x.s1.size ≤ 12
   · by_cases h2 : x.s2.size ≤ 12
     · by_cases h3 : x.s3.size ≤ 12
       · refine (RRw_p5 x (sml h0) (sml h1) (sml h2) (sml h3)).eqB ?_
         rw [decide_eq_true h0, decide_eq_true h1, decide_eq_true h2, decide_eq_true h3, Bool.true_and, Bool.true_and, Bool.true_and, Bool.true_and, decide_eq_decide]
         omega
       · refine (RRw_p4 x (sml h0) (sml h1) (sml h2) (big h3)).eqB ?_
         simp [h3]
     · refine (RRw_p3 x (sml h0) (sml h1) (big h2)).eqB ?_
       simp [h2]
   · refine (RRw_p2 x (sml h0) (big h1)).eqB ?_
     simp [h1]
 · refine (RRw_p1 x (big h0)).eqB ?_
   simp [h0]
def raw3 (n : Nat) (x y z : RN) : Bool := x.raw n && (y.raw n && z.raw n)
def ok3 (x y z : RN) : Bool := x.ok && (y.ok && z.ok)
theorem raw3_iff {n : Nat} {x y z : RN} : raw3 n x y z = true ↔ x.raw n = true ∧ y.raw n = true ∧ z.raw n = true := by simp [raw3]
theorem RN.raw_mono {x : RN} {n m : Nat} (h : x.raw n = true) (hm : n ≤ m) : x.raw m = true := by
 unfold RN.raw at h ⊢
 simp only [Bool.and_eq_true, decide_eq_true_eq] at h ⊢
 omega
theorem WRi_c (x y z : RN) (h : raw3 1000000 x y z = true) : PCall P 134 [vecR x y z] (.lit (.bool (ok3 x y z))) := by
 obtain ⟨hx, hy, hz⟩ := raw3_iff.1 h
 unfold ok3
 cases ex : x.ok
 · exact wri_p4 x y z ex hx
 · cases ey : y.ok
   · exact wri_p3 x y z ex ey hx hy
   · cases ez : z.ok
     · exact wri_p2 x y z ex ey ez hx hy hz
     · exact wri_p1 x y z ex ey ez hx hy hz
end Go.Fw
open Go IntKind
namespace Go.Fw
set_option maxRecDepth 100000
theorem fewr_p1 (x y z : RN) (h1 : (RN.raw 12 x) = true) (h2 : (RN.raw 12 y) = true) (h3 : (RN.raw 12 z) = true) : PCall P 48 [vecR x y z] (.lit (.bool true)) :=
 pcallT (.r 4 ((RRaw_c (x)).eqB h1) (.r 8 ((RRaw_c (y)).eqB h2) (.r 13 ((RRaw_c (z)).eqB h3) .nil))) (by kernel_rfl)
theorem fewr_p2 (x y z : RN) (h1 : (RN.raw 12 x) = true) (h2 : (RN.raw 12 y) = true) (h3 : (RN.raw 12 z) = false) : PCall P 48 [vecR x y z] (.lit (.bool false)) :=
 pcallT (.r 4 ((RRaw_c (x)).eqB h1) (.r 8 ((RRaw_c (y)).eqB h2) (.r 13 ((RRaw_c (z)).eqB h3) .nil))) (by kernel_rfl)
theorem fewr_p3 (x y z : RN) (h1 : (RN.raw 12 x) = true) (h2 : (RN.raw 12 y) = false) : PCall P 48 [vecR x y z] (.lit (.bool false)) :=
 pcallT (.r 4 ((RRaw_c (x)).eqB h1) (.r 8 ((RRaw_c (y)).eqB h2) .nil)) (by kernel_rfl)
theorem fewr_p4 (x y z : RN) (h1 : (RN.raw 12 x) = false) : PCall P 48 [vecR x y z] (.lit (.bool false)) :=
 pcallT (.r 4 ((RRaw_c (x)).eqB h1) .nil) (by kernel_rfl)
theorem wTuB_p1 (x y z : RN) (i : Int) (g : ok3 x y z = false) (s3_0 : raw3 1000000 x y z = true) : PCall P 49 [vecR x y z, ci64 i] zeroVec :=
 pcallT (.r 3 ((WRi_c (x) (y) (z) s3_0).eqB g) (.c (lq 30 30) .nil)) (by kernel_rfl)
theorem wFlB_p1 (x y z : RN) (g : ok3 x y z = false) (s3_0 : raw3 1000000 x y z = true) : PCall P 51 [vecR x y z] zeroVec :=
 pcallT (.r 3 ((WRi_c (x) (y) (z) s3_0).eqB g) (.c (lq 30 30) .nil)) (by kernel_rfl)
end Go.Fw
