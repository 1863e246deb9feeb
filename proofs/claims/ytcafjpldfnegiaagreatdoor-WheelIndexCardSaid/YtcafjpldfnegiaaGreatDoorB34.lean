/- A part of the proof that the law returns true for every input: an executor for the model's code, and what functions of the program compute. -/
import Derived.Test.YtcafjpldfnegiaaGreatDoorB09
import Derived.Test.YtcafjpldfnegiaaGreatDoorB14
import Derived.Test.YtcafjpldfnegiaaGreatDoorB32
import Derived.Test.YtcafjpldfnegiaaGreatDoorB33
import Derived.KernelRfl
open Go
namespace Go.Fw
set_option maxRecDepth 100000
set_option maxHeartbeats 1000000
theorem lt24 {p : Nat} (h : p < 24) : p = 0 ∨ p = 1 ∨ p = 2 ∨ p = 3 ∨ p = 4 ∨ p = 5 ∨ p = 6 ∨ p = 7 ∨ p = 8 ∨ p = 9 ∨ p = 10 ∨ p = 11 ∨ p = 12 ∨ p = 13 ∨ p = 14 ∨ p = 15 ∨ p = 16 ∨ p = 17 ∨ p = 18 ∨ p = 19 ∨ p = 20 ∨ p = 21 ∨ p = 22 ∨ p = 23 := by omega
def thsC (t : Nat → Bool) : List CV := [.lit (.bool (t 0)), .lit (.bool (t 1)), .lit (.bool (t 2)), .lit (.bool (t 3)), .lit (.bool (t 4)), .lit (.bool (t 5)), .lit (.bool (t 6)), .lit (.bool (t 7)), .lit (.bool (t 8)), .lit (.bool (t 9)), .lit (.bool (t 10)), .lit (.bool (t 11)), .lit (.bool (t 12)), .lit (.bool (t 13)), .lit (.bool (t 14)), .lit (.bool (t 15)), .lit (.bool (t 16)), .lit (.bool (t 17)), .lit (.bool (t 18)), .lit (.bool (t 19)), .lit (.bool (t 20)), .lit (.bool (t 21)), .lit (.bool (t 22)), .lit (.bool (t 23))]
theorem thsC_own (t : Nat → Bool) : own (thsC t) = thsM t := rfl
theorem orb_set (t : Nat → Bool) {p : Nat} (h : p < 24) : setCells (own (thsC t)) (0 + p * 1) [.cv (.lit (.bool true))] = own (thsC (fun x => p == x || t x)) := by
  rcases lt24 h with rfl | rfl | rfl | rfl | rfl | rfl | rfl | rfl | rfl | rfl | rfl | rfl | rfl | rfl | rfl | rfl | rfl | rfl | rfl | rfl | rfl | rfl | rfl | rfl <;> rfl
section
variable (t : Nat → Bool) (p : Nat) (hp : p < 24)
include hp
theorem WOP1 (h1 : t p = true) {R : Goal} (hn : lentOk R.n [1] = true) (hR : Ok P 28 (loopHead P 28 1) ⟨mkTm 48 [(13, .sl 0 0 1 1), (36, .agg (thsM t)), (37, .cv (ci64 (p + 1)))], [some [.cv (ci64 p)]]⟩ R) :
    Ok P 28 (loopHead P 28 1) ⟨mkTm 48 [(13, .cv (.lit (.slice none 0 0))), (36, .agg (thsM t)), (37, .cv (ci64 p))], []⟩ R :=
  okS (keep := [13, 36, 37]) (σ := [1]) (ors := [(8, Or.b true), (16, Or.stop)]) (by rcases lt24 hp with rfl | rfl | rfl | rfl | rfl | rfl | rfl | rfl | rfl | rfl | rfl | rfl | rfl | rfl | rfl | rfl | rfl | rfl | rfl | rfl | rfl | rfl | rfl | rfl <;> kernel_rfl) rfl
    (.cons (show (0 : Int) ≤ p ∧ (p : Int) < 24 by omega) (.cons h1 (.cons (show 8 ≤ 1099511627776 by decide) (.cons (show 1 ≤ 1099511627776 by decide) (.cons (show 0 < 1 by decide) (.cons (show 1 = 1 from rfl) (.cons (show CvL (own [ci64 p]) from CvL.own _) .nil))))))) hn hR
theorem WOP2 (h1 : t p = false) {R : Goal} (hn : lentOk R.n [] = true) (hR : Ok P 28 (loopHead P 28 1) ⟨mkTm 48 [(13, .cv (.lit (.slice none 0 0))), (36, .agg (thsM t)), (37, .cv (ci64 (p + 1)))], []⟩ R) :
    Ok P 28 (loopHead P 28 1) ⟨mkTm 48 [(13, .cv (.lit (.slice none 0 0))), (36, .agg (thsM t)), (37, .cv (ci64 p))], []⟩ R :=
  okS (keep := [13, 36, 37]) (σ := []) (ors := [(8, Or.b false), (11, Or.stop)]) (by rcases lt24 hp with rfl | rfl | rfl | rfl | rfl | rfl | rfl | rfl | rfl | rfl | rfl | rfl | rfl | rfl | rfl | rfl | rfl | rfl | rfl | rfl | rfl | rfl | rfl | rfl <;> kernel_rfl) rfl
    (.cons (show (0 : Int) ≤ p ∧ (p : Int) < 24 by omega) (.cons h1 .nil)) hn hR
theorem WOQ1 (c : Nat) (out : List CV) (h1 : t p = true) (hc : c < 24) (ho : out.length = c) {R : Goal} (hn : lentOk R.n [2] = true) (hR : Ok P 28 (loopHead P 28 1) ⟨mkTm 48 [(13, .sl 0 0 (c + 1) 1), (36, .agg (thsM t)), (37, .cv (ci64 (p + 1)))], [some (own out ++ own [ci64 p])]⟩ R) :
    Ok P 28 (loopHead P 28 1) ⟨mkTm 48 [(13, .sl 0 0 c 1), (36, .agg (thsM t)), (37, .cv (ci64 p))], [some (own out)]⟩ R :=
  okS (keep := [13, 36, 37]) (σ := [2]) (ors := [(8, Or.b true), (16, Or.stop)]) (by rcases lt24 hp with rfl | rfl | rfl | rfl | rfl | rfl | rfl | rfl | rfl | rfl | rfl | rfl | rfl | rfl | rfl | rfl | rfl | rfl | rfl | rfl | rfl | rfl | rfl | rfl <;> kernel_rfl) rfl
    (.cons (show (0 : Int) ≤ p ∧ (p : Int) < 24 by omega) (.cons h1 (.cons (show (c + 1) * 8 ≤ 1099511627776 by omega) (.cons (show c + 1 ≤ 1099511627776 by omega) (.cons (show (own out).length = c * 1 by simp [own, ho]) (.cons (show OneL (own [ci64 p]) by intro m hm; simp only [own, List.map_cons, List.map_nil, List.mem_cons, List.not_mem_nil, or_false] at hm; subst hm; rfl) (.cons (show 1 = 1 from rfl) (.cons (show CvL (own out ++ own [ci64 p]) by rw [← own_app]; exact CvL.own _) .nil)))))))) hn hR
theorem WOQ2 (c : Nat) (out : List CV) (h1 : t p = false) {R : Goal} (hn : lentOk R.n [0] = true) (hR : Ok P 28 (loopHead P 28 1) ⟨mkTm 48 [(13, .sl 0 0 c 1), (36, .agg (thsM t)), (37, .cv (ci64 (p + 1)))], [some (own out)]⟩ R) :
    Ok P 28 (loopHead P 28 1) ⟨mkTm 48 [(13, .sl 0 0 c 1), (36, .agg (thsM t)), (37, .cv (ci64 p))], [some (own out)]⟩ R :=
  okS (keep := [13, 36, 37]) (σ := [0]) (ors := [(8, Or.b false), (11, Or.stop)]) (by rcases lt24 hp with rfl | rfl | rfl | rfl | rfl | rfl | rfl | rfl | rfl | rfl | rfl | rfl | rfl | rfl | rfl | rfl | rfl | rfl | rfl | rfl | rfl | rfl | rfl | rfl <;> kernel_rfl) rfl
    (.cons (show (0 : Int) ≤ p ∧ (p : Int) < 24 by omega) (.cons h1 (.cons (CvL.own out) .nil))) hn hR
end
end Go.Fw
open Go
namespace Go.Fw
set_option maxRecDepth 100000
/-- The marked positions from p on. -/
def outFrom (t : Nat → Bool) : Nat → Nat → List CV
  | _, 0 => []
  | p, d + 1 => (if t p then [ci64 p] else []) ++ outFrom t (p + 1) d
/-- A list that was begun as nil. -/
def outV : List CV → CV
  | [] => .lit (.slice none 0 0)
  | c :: l => .lst (l.length + 1) (c :: l)
theorem WO_list (t : Nat → Bool) {R : Goal} (hn : R.n = 0) : ∀ (d p : Nat) (out : List CV), p + d = 24 → out.length ≤ p → R.c (.tup [.lst (out ++ outFrom t p d).length (out ++ outFrom t p d), ci64 0]) →
    Ok P 28 (loopHead P 28 1) ⟨mkTm 48 [(13, .sl 0 0 out.length 1), (36, .agg (thsM t)), (37, .cv (ci64 p))], [some (own out)]⟩ R
  | 0, p, out, hp, _, hR => by
    have : p = 24 := by omega
    subst this
    refine WOF_p1 t out.length out (by rw [List.drop_zero]; exact List.take_of_length_le (by simp [own])) ?_
    simpa [outFrom] using hR
  | d + 1, p, out, hp, ho, hR => by
    have ih := WO_list t hn d (p + 1)
    cases h : t p with
    | true =>
      refine WOQ1 t p (by omega) out.length out h (by omega) rfl (by rw [hn]; rfl) ?_
      have := ih (out ++ [ci64 p]) (by omega) (by simp; omega) (by simpa [outFrom, h] using hR)
      rw [own_app, List.length_append] at this
      exact this
    | false =>
      refine WOQ2 t p (by omega) out.length out h (by rw [hn]; rfl) ?_
      exact ih out (by omega) (by omega) (by simpa [outFrom, h] using hR)
theorem WO_nil (t : Nat → Bool) {R : Goal} (hn : R.n = 0) : ∀ (d p : Nat), p + d = 24 → R.c (.tup [outV (outFrom t p d), ci64 0]) →
    Ok P 28 (loopHead P 28 1) ⟨mkTm 48 [(13, .cv (.lit (.slice none 0 0))), (36, .agg (thsM t)), (37, .cv (ci64 p))], []⟩ R
  | 0, p, hp, hR => by
    have : p = 24 := by omega
    subst this
    exact WOE_p1 t hR
  | d + 1, p, hp, hR => by
    cases h : t p with
    | true =>
      refine WOP1 t p (by omega) h (by rw [hn]; rfl) ?_
      exact WO_list t hn d (p + 1) [ci64 p] (by omega) (by simp) (by simpa [outFrom, h, outV] using hR)
    | false =>
      refine WOP2 t p (by omega) h (by rw [hn]; rfl) ?_
      exact WO_nil t hn d (p + 1) (by omega) (by simpa [outFrom, h] using hR)

/-- The cells of a list of motions. -/
def flatM : List (Int × Bool) → List CV
  | [] => []
  | m :: l => ci64 m.1 :: .lit (.bool m.2) :: flatM l
theorem flatM_app : ∀ (a b : List (Int × Bool)), flatM (a ++ b) = flatM a ++ flatM b
  | [], b => rfl
  | m :: a, b => by simp [flatM, flatM_app a b]
theorem flatM_length : ∀ (a : List (Int × Bool)), (flatM a).length = a.length * 2
  | [] => rfl
  | m :: a => by simp [flatM, flatM_length a]; omega
def motQ (o : Int) (f : Bool) : Nat → List (Int × Bool)
  | 0 => []
  | k + 1 => motQ o f k ++ [(k * (24 / o), f)]
theorem motL_flat (o : Int) (f : Bool) : ∀ k, motL o f k = flatM (motQ o f k)
  | 0 => rfl
  | k + 1 => by rw [motQ, flatM_app, motL, motL_flat o f k]; rfl
theorem motQ_length (o : Int) (f : Bool) : ∀ k, (motQ o f k).length = k
  | 0 => rfl
  | k + 1 => by simp [motQ, motQ_length o f k]
/-- The motions of an order. -/
def motP (o : Int) (b : Bool) : List (Int × Bool) := motQ o false o.toNat ++ (if b then motQ o true o.toNat else [])
theorem cellsM_flat (o : Int) (b : Bool) : cellsM o b = flatM (motP o b) := by
  unfold cellsM motP
  rw [flatM_app, motL_flat]
  cases b with
  | true => simp [motL_flat]
  | false => rfl
theorem cntM_length (o : Int) (b : Bool) : cntM o b = (motP o b).length := by
  unfold cntM motP
  cases b <;> simp [motQ_length]
/-- One motion's mark. -/
def mark (i : Int) (t : Nat → Bool) (m : Int × Bool) : Nat → Bool := fun x => (idxM m.1 m.2 i).toNat == x || t x
theorem idxM_bd (t : Int) (b : Bool) (i : Int) : 0 ≤ idxM t b i ∧ idxM t b i < 24 := by unfold idxM; split <;> omega
theorem WO_marks {R : Goal} (hn : R.n = 0) (i : Int) : ∀ (l2 l1 : List (Int × Bool)) (t : Nat → Bool), (l1 ++ l2).length ≤ 48 → R.c (.tup [outV (outFrom (l2.foldl (mark i) t) 0 24), ci64 0]) →
    Ok P 28 (loopHead P 28 0) ⟨mkTm 48 [(0, .cv (ci64 i)), (10, .ptr 0 0), (25, .cv (.lst (l1 ++ l2).length (flatM (l1 ++ l2)))), (26, .cv (ci64 (l1 ++ l2).length)), (27, .cv (ci64 l1.length))], [some (own (thsC t))]⟩ R
  | [], l1, t, hl, hR => by
    refine WOX_p1 i _ _ (decide_eq_false (by simp)) _ t (by rw [hn]; rfl) ?_
    exact WO_nil t hn 24 0 rfl hR
  | m :: l2, l1, t, hl, hR => by
    have hb := idxM_bd m.1 m.2 i
    have e1 : i = i := rfl
    refine WOL_p1 i _ _ m.1 m.2 _ _ (decide_eq_true (by simp; omega)) (by simp; omega) ?_ hb (by show 0 + (idxM m.1 m.2 i).toNat * 1 + 1 ≤ 24; omega) ?_ (by rw [hn]; rfl) ?_
    · rw [flatM_app]
      have : (l1.length : Int).toNat * 2 = (flatM l1).length := by rw [flatM_length]; simp
      rw [this, List.drop_left]; rfl
    · rw [orb_set t (by omega)]; exact CvL.own _
    · rw [orb_set t (by omega), w64 (by simp at hl; omega)]
      have := WO_marks hn i l2 (l1 ++ [m]) (mark i t m) (by simpa using hl) (by simpa using hR)
      rw [show l1 ++ m :: l2 = (l1 ++ [m]) ++ l2 by simp, show ((l1.length : Int) + 1) = ((l1 ++ [m]).length : Int) by simp]
      exact this
def orbT (o : Int) (b : Bool) (i : Int) : Nat → Bool := (motP o b).foldl (mark i) (fun _ => false)
theorem WOrb_ok (i o : Int) (b : Bool) (ho : okO o) : PCall P 28 [ci64 i, ci64 o, .lit (.bool b)] (.tup [outV (outFrom (orbT o b i) 0 24), ci64 0]) := by
  refine WOrb_p1 i o b ho (R := (· = _)) ?_
  have h1 := ho.1
  have h2 := ho.2.1
  have := WO_marks (R := (· = CV.tup [outV (outFrom (orbT o b i) 0 24), ci64 0])) rfl i (motP o b) [] (fun _ => false) (by simp only [List.nil_append, ← cntM_length, cntM]; split <;> omega) rfl
  simp only [List.nil_append] at this
  rw [← cellsM_flat, ← cntM_length] at this
  exact this
end Go.Fw
open Go
namespace Go.Fw
set_option maxRecDepth 100000

theorem RMot_p1 (o : Int) (b : Bool) (h1 : (decide (o < (1 : Int))) = true) : PCall P (27 : FuncId) [ci64 o, CV.lit (Value.bool b)] (CV.tup [CV.lit (Value.slice none 0 0), CV.lit (Value.int IntKind.i64 (2 : Int))]) :=
  pcallR (ors := [(4, Or.b true)]) (by kernel_rfl) (.cons h1 .nil)
theorem RMot_p2 (o : Int) (b : Bool) (h1 : (decide (o < (1 : Int))) = false) (h2 : (decide (o > (24 : Int))) = true) : PCall P (27 : FuncId) [ci64 o, CV.lit (Value.bool b)] (CV.tup [CV.lit (Value.slice none 0 0), CV.lit (Value.int IntKind.i64 (2 : Int))]) :=
  pcallR (ors := [(4, Or.b false), (8, Or.b true)]) (by kernel_rfl) (.cons h1 (.cons h2 .nil))
theorem RMot_p3 (o : Int) (b : Bool) (h1 : (decide (o < (1 : Int))) = false) (h2 : (decide (o > (24 : Int))) = false) (h3 : (Int.tmod (24 : Int) o != (0 : Int)) = true) (o2 : o ≠ (0 : Int)) : PCall P (27 : FuncId) [ci64 o, CV.lit (Value.bool b)] (CV.tup [CV.lit (Value.slice none 0 0), CV.lit (Value.int IntKind.i64 (2 : Int))]) :=
  pcallR (ors := [(4, Or.b false), (8, Or.b false), (13, Or.b true)]) (by kernel_rfl) (.cons h1 (.cons h2 (.cons o2 (.cons h3 .nil))))
theorem RMot_p4 (o : Int) (b : Bool) (h1 : (decide (o < (1 : Int))) = false) (h2 : (decide (o > (24 : Int))) = false) (h3 : (Int.tmod (24 : Int) o != (0 : Int)) = false) (o2 : o ≠ (0 : Int)) {R : CV → Prop} (hR : Ok P (27 : FuncId) (loopHead P (27 : FuncId) 0) ⟨mkTm 50 [(0, MV.cv (CV.lit (Value.int IntKind.i64 o))), (1, MV.cv (CV.lit (Value.bool b))), (6, MV.cv (CV.lit (Value.slice none 0 0))), (7, MV.cv (CV.lit (Value.int IntKind.i64 (0 : Int))))], []⟩ (.of R)) : PCallQ P (27 : FuncId) [ci64 o, CV.lit (Value.bool b)] R :=
  pcallS (keep := [0, 1, 6, 7]) (σ := []) (ors := [(4, Or.b false), (8, Or.b false), (13, Or.b false), (16, Or.stop)]) (by kernel_rfl) rfl (.cons h1 (.cons h2 (.cons o2 (.cons h3 .nil)))) hR
theorem RMA_p1 (o : Int) (b : Bool) (h1 : (decide ((0 : Int) < o)) = true) (o1 : o ≠ (0 : Int)) {R : Goal} (hn : lentOk R.n [1] = true) (hR : Ok P (27 : FuncId) (loopHead P (27 : FuncId) 0) ⟨mkTm 50 [(0, MV.cv (CV.lit (Value.int IntKind.i64 o))), (1, MV.cv (CV.lit (Value.bool b))), (6, MV.sl 0 0 1 2), (7, MV.cv (CV.lit (Value.int IntKind.i64 (1 : Int))))], [some [MV.cv (CV.lit (Value.int IntKind.i64 (IntKind.i64.wrap ((0 : Int) * IntKind.i64.wrap (Int.tdiv (24 : Int) o))))), MV.cv (CV.lit (Value.bool false))]]⟩ R) : Ok P (27 : FuncId) (loopHead P (27 : FuncId) 0) ({ tm := mkTm 50 [(0, MV.cv (ci64 o)), (1, MV.cv (CV.lit (Value.bool b))), (6, MV.cv (CV.lit (Value.slice none 0 0))), (7, MV.cv (ci64 (0 : Int)))], hp := [] }) R :=
  okS (keep := [0, 1, 6, 7]) (σ := [1]) (ors := [(4, Or.b true), (17, Or.stop)]) (by kernel_rfl) rfl (.cons h1 (.cons o1 (.cons (show 16 ≤ 1099511627776 from (by decide)) (.cons (show 1 ≤ 1099511627776 from (by decide)) (.cons (show 0 < 1 from (by decide)) (.cons (show 2 = 2 from (by decide)) (.cons (show CvL [MV.cv (CV.lit (Value.int IntKind.i64 (IntKind.i64.wrap ((0 : Int) * IntKind.i64.wrap (Int.tdiv (24 : Int) o))))), MV.cv (CV.lit (Value.bool false))] from (by simp [CvL])) .nil))))))) hn hR
theorem RMA_p2 (o : Int) (b : Bool) (h1 : (decide ((0 : Int) < o)) = false) {R : Goal} (hn : lentOk R.n [] = true) (hR : Ok P (27 : FuncId) (loopHead P (27 : FuncId) 1) ⟨mkTm 50 [(0, MV.cv (CV.lit (Value.int IntKind.i64 o))), (1, MV.cv (CV.lit (Value.bool b))), (6, MV.cv (CV.lit (Value.slice none 0 0))), (8, MV.cv (CV.lit (Value.int IntKind.i64 (0 : Int))))], []⟩ R) : Ok P (27 : FuncId) (loopHead P (27 : FuncId) 0) ({ tm := mkTm 50 [(0, MV.cv (ci64 o)), (1, MV.cv (CV.lit (Value.bool b))), (6, MV.cv (CV.lit (Value.slice none 0 0))), (7, MV.cv (ci64 (0 : Int)))], hp := [] }) R :=
  okS (keep := [0, 1, 6, 8]) (σ := []) (ors := [(4, Or.b false), (6, Or.stop)]) (by kernel_rfl) rfl (.cons h1 .nil) hn hR
theorem RMB_p1 (o : Int) (k : Int) (b : Bool) (c : Nat) (cells : List CV) (h1 : (decide (k < o)) = true) (o1 : o ≠ (0 : Int)) (o2 : (c + 1) * 16 ≤ 1099511627776) (o3 : c + 1 ≤ 1099511627776) (o4 : (own cells).length = c * 2) (o5 : OneL [MV.cv (CV.lit (Value.int IntKind.i64 (IntKind.i64.wrap (k * IntKind.i64.wrap (Int.tdiv (24 : Int) o))))), MV.cv (CV.lit (Value.bool false))]) (o7 : CvL (own cells ++ [MV.cv (CV.lit (Value.int IntKind.i64 (IntKind.i64.wrap (k * IntKind.i64.wrap (Int.tdiv (24 : Int) o))))), MV.cv (CV.lit (Value.bool false))])) {R : Goal} (hn : lentOk R.n [2] = true) (hR : Ok P (27 : FuncId) (loopHead P (27 : FuncId) 0) ⟨mkTm 50 [(0, MV.cv (CV.lit (Value.int IntKind.i64 o))), (1, MV.cv (CV.lit (Value.bool b))), (6, MV.sl 0 0 (c + 1) 2), (7, MV.cv (CV.lit (Value.int IntKind.i64 (IntKind.i64.wrap (k + (1 : Int))))))], [some (own cells ++ [MV.cv (CV.lit (Value.int IntKind.i64 (IntKind.i64.wrap (k * IntKind.i64.wrap (Int.tdiv (24 : Int) o))))), MV.cv (CV.lit (Value.bool false))])]⟩ R) : Ok P (27 : FuncId) (loopHead P (27 : FuncId) 0) ({ tm := mkTm 50 [(0, MV.cv (ci64 o)), (1, MV.cv (CV.lit (Value.bool b))), (6, MV.sl 0 0 c 2), (7, MV.cv (ci64 k))], hp := [some (own cells)] }) R :=
  okS (keep := [0, 1, 6, 7]) (σ := [2]) (ors := [(4, Or.b true), (17, Or.stop)]) (by kernel_rfl) rfl (.cons h1 (.cons o1 (.cons o2 (.cons o3 (.cons o4 (.cons o5 (.cons (show 2 = 2 from (by decide)) (.cons o7 .nil)))))))) hn hR
theorem RMB_p2 (o : Int) (k : Int) (b : Bool) (c : Nat) (cells : List CV) (h1 : (decide (k < o)) = false) (o1 : CvL (own cells)) {R : Goal} (hn : lentOk R.n [0] = true) (hR : Ok P (27 : FuncId) (loopHead P (27 : FuncId) 1) ⟨mkTm 50 [(0, MV.cv (CV.lit (Value.int IntKind.i64 o))), (1, MV.cv (CV.lit (Value.bool b))), (6, MV.sl 0 0 c 2), (8, MV.cv (CV.lit (Value.int IntKind.i64 (0 : Int))))], [some (own cells)]⟩ R) : Ok P (27 : FuncId) (loopHead P (27 : FuncId) 0) ({ tm := mkTm 50 [(0, MV.cv (ci64 o)), (1, MV.cv (CV.lit (Value.bool b))), (6, MV.sl 0 0 c 2), (7, MV.cv (ci64 k))], hp := [some (own cells)] }) R :=
  okS (keep := [0, 1, 6, 8]) (σ := [0]) (ors := [(4, Or.b false), (6, Or.stop)]) (by kernel_rfl) rfl (.cons h1 (.cons o1 .nil)) hn hR
theorem RMC_p1 (o : Int) (k : Int) (b : Bool) (c : Nat) (cells : List CV) (h1 : (decide (k < o)) = true) (h2 : (b) = true) (o2 : o ≠ (0 : Int)) (o3 : (c + 1) * 16 ≤ 1099511627776) (o4 : c + 1 ≤ 1099511627776) (o5 : (own cells).length = c * 2) (o6 : OneL [MV.cv (CV.lit (Value.int IntKind.i64 (IntKind.i64.wrap (k * IntKind.i64.wrap (Int.tdiv (24 : Int) o))))), MV.cv (CV.lit (Value.bool true))]) (o8 : CvL (own cells ++ [MV.cv (CV.lit (Value.int IntKind.i64 (IntKind.i64.wrap (k * IntKind.i64.wrap (Int.tdiv (24 : Int) o))))), MV.cv (CV.lit (Value.bool true))])) {R : Goal} (hn : lentOk R.n [2] = true) (hR : Ok P (27 : FuncId) (loopHead P (27 : FuncId) 1) ⟨mkTm 50 [(0, MV.cv (CV.lit (Value.int IntKind.i64 o))), (1, MV.cv (CV.lit (Value.bool b))), (6, MV.sl 0 0 (c + 1) 2), (8, MV.cv (CV.lit (Value.int IntKind.i64 (IntKind.i64.wrap (k + (1 : Int))))))], [some (own cells ++ [MV.cv (CV.lit (Value.int IntKind.i64 (IntKind.i64.wrap (k * IntKind.i64.wrap (Int.tdiv (24 : Int) o))))), MV.cv (CV.lit (Value.bool true))])]⟩ R) : Ok P (27 : FuncId) (loopHead P (27 : FuncId) 1) ({ tm := mkTm 50 [(0, MV.cv (ci64 o)), (1, MV.cv (CV.lit (Value.bool b))), (6, MV.sl 0 0 c 2), (8, MV.cv (ci64 k))], hp := [some (own cells)] }) R :=
  okS (keep := [0, 1, 6, 8]) (σ := [2]) (ors := [(4, Or.b true), (7, Or.b true), (20, Or.stop)]) (by kernel_rfl) rfl (.cons h1 (.cons h2 (.cons o2 (.cons o3 (.cons o4 (.cons o5 (.cons o6 (.cons (show 2 = 2 from (by decide)) (.cons o8 .nil))))))))) hn hR
theorem RMC_p2 (o : Int) (k : Int) (b : Bool) (c : Nat) (cells : List CV) (h1 : (decide (k < o)) = true) (h2 : (b) = false) (o2 : List.take (c * 2) (List.drop 0 (own cells)) = List.map MV.cv cells) {R : Goal} (hR : R.c (CV.tup [CV.lst c cells, CV.lit (Value.int IntKind.i64 (0 : Int))])) : Ok P (27 : FuncId) (loopHead P (27 : FuncId) 1) ({ tm := mkTm 50 [(0, MV.cv (ci64 o)), (1, MV.cv (CV.lit (Value.bool b))), (6, MV.sl 0 0 c 2), (8, MV.cv (ci64 k))], hp := [some (own cells)] }) R :=
  okR (ors := [(4, Or.b true), (7, Or.b false), (11, Or.r (CV.lit undef) [cells])]) (by kernel_rfl) (.cons h1 (.cons h2 (.cons o2 .nil))) hR
theorem RMC_p3 (o : Int) (k : Int) (b : Bool) (c : Nat) (cells : List CV) (h1 : (decide (k < o)) = false) (o1 : List.take (c * 2) (List.drop 0 (own cells)) = List.map MV.cv cells) {R : Goal} (hR : R.c (CV.tup [CV.lst c cells, CV.lit (Value.int IntKind.i64 (0 : Int))])) : Ok P (27 : FuncId) (loopHead P (27 : FuncId) 1) ({ tm := mkTm 50 [(0, MV.cv (ci64 o)), (1, MV.cv (CV.lit (Value.bool b))), (6, MV.sl 0 0 c 2), (8, MV.cv (ci64 k))], hp := [some (own cells)] }) R :=
  okR (ors := [(4, Or.b false), (11, Or.r (CV.lit undef) [cells])]) (by kernel_rfl) (.cons h1 (.cons o1 .nil)) hR
end Go.Fw
open Go
namespace Go.Fw
theorem oneM (x : Int) (f : Bool) : OneL [.cv (ci64 x), .cv (.lit (.bool f))] := by
  intro m hm; simp only [List.mem_cons, List.not_mem_nil, or_false] at hm; rcases hm with rfl | rfl <;> rfl
theorem cvlM (pre : List CV) (x : Int) (f : Bool) : CvL (own pre ++ [.cv (ci64 x), .cv (.lit (.bool f))]) := by
  show CvL (own pre ++ own [ci64 x, .lit (.bool f)])
  rw [← own_app]; exact CvL.own _
theorem motL_succ (o : Int) (f : Bool) (pre : List CV) (k : Nat) : own (pre ++ motL o f (k + 1)) = own (pre ++ motL o f k) ++ [.cv (ci64 (k * (24 / o))), .cv (.lit (.bool f))] := by
  rw [show pre ++ motL o f (k + 1) = pre ++ motL o f k ++ [ci64 (k * (24 / o)), .lit (.bool f)] by simp [motL], own_app]; rfl
theorem RM_0 {R : Goal} {o : Int} {b : Bool} (ho : okO o) (hn : R.n = 0)
    (hR : Ok P 27 (loopHead P 27 1) ⟨mkTm 50 [(0, .cv (ci64 o)), (1, .cv (.lit (.bool b))), (6, .sl 0 0 o.toNat 2), (8, .cv (ci64 0))], [some (own (motL o false o.toNat))]⟩ R) :
    ∀ (d k : Nat), k + d = o.toNat → Ok P 27 (loopHead P 27 0) ⟨mkTm 50 [(0, .cv (ci64 o)), (1, .cv (.lit (.bool b))), (6, .sl 0 0 k 2), (7, .cv (ci64 k))], [some (own ([] ++ motL o false k))]⟩ R
  | 0, k, hk => by
    have h1 := ho.1
    have e : k = o.toNat := by omega
    subst e
    exact RMB_p2 o _ b _ _ (decide_eq_false (by omega)) (CvL.own _) (by rw [hn]; rfl) hR
  | d + 1, k, hk => by
    have h1 := ho.1
    have h2 := ho.2.1
    have e := (step24 ho k (by omega)).2
    refine RMB_p1 o _ b _ _ (decide_eq_true (by omega)) (by omega) (by omega) (by omega) (by simp [own, motL_length]) (oneM _ _) (cvlM _ _ _) (by rw [hn]; rfl) ?_
    have := RM_0 ho hn hR d (k + 1) (by omega)
    rw [e, w64 (by omega)]
    rw [motL_succ] at this
    exact this
theorem RM_1 {R : Goal} {o : Int} (ho : okO o) (hn : R.n = 0) (pre : List CV) (hp : pre.length = o.toNat * 2)
    (hR : R.c (.tup [.lst (o.toNat + o.toNat) (pre ++ motL o true o.toNat), ci64 0])) :
    ∀ (d k : Nat), k + d = o.toNat → Ok P 27 (loopHead P 27 1) ⟨mkTm 50 [(0, .cv (ci64 o)), (1, .cv (.lit (.bool true))), (6, .sl 0 0 (o.toNat + k) 2), (8, .cv (ci64 k))], [some (own (pre ++ motL o true k))]⟩ R
  | 0, k, hk => by
    have h1 := ho.1
    have e : k = o.toNat := by omega
    subst e
    exact RMC_p3 o _ true _ _ (decide_eq_false (by omega)) (by rw [List.drop_zero]; exact List.take_of_length_le (by simp [own, motL_length, hp]; omega)) hR
  | d + 1, k, hk => by
    have h1 := ho.1
    have h2 := ho.2.1
    have e := (step24 ho k (by omega)).2
    refine RMC_p1 o _ true _ _ (decide_eq_true (by omega)) rfl (by omega) (by omega) (by omega) (by simp [own, motL_length, hp]; omega) (oneM _ _) (cvlM _ _ _) (by rw [hn]; rfl) ?_
    have := RM_1 ho hn pre hp hR d (k + 1) (by omega)
    rw [e, w64 (by omega)]
    rw [motL_succ] at this
    exact this
theorem RMot_ok (o : Int) (b : Bool) (ho : okO o) : PCall P 27 [ci64 o, .lit (.bool b)] (.tup [motsV o b, ci64 0]) := by
  have h1 := ho.1
  have h2 := ho.2.1
  have h3 : (Int.tmod 24 o != 0) = false := by rcases okO_cases ho with rfl | rfl | rfl | rfl | rfl | rfl | rfl | rfl <;> decide
  refine RMot_p4 o b (decide_eq_false (by omega)) (decide_eq_false (by omega)) h3 (by omega) (R := (· = _)) ?_
  refine RMA_p1 o b (decide_eq_true (by omega)) (by omega) rfl ?_
  have := RM_0 (R := (· = CV.tup [motsV o b, ci64 0])) (b := b) ho rfl ?_ (o.toNat - 1) 1 (by omega)
  · have e := (step24 ho 0 (by omega)).2
    rw [show ((0 : Nat) : Int) = 0 from rfl] at e
    rw [e]
    exact this
  · cases b with
    | false => exact RMC_p2 o 0 false _ _ (decide_eq_true (by omega)) rfl (by simp [own, motL_length, List.take_of_length_le]) (show CV.tup _ = CV.tup _ by simp [motsV, cntM, cellsM])
    | true =>
      have := RM_1 (R := (· = CV.tup [motsV o true, ci64 0])) ho rfl (motL o false o.toNat) (motL_length _ _ _) (show CV.tup _ = CV.tup _ by simp [motsV, cntM, cellsM]) o.toNat 0 (by omega)
      simpa [motL] using this
theorem RMot_bad (o : Int) (b : Bool) (ho : ¬ okO o) : PCall P 27 [ci64 o, .lit (.bool b)] (.tup [.lit (.slice none 0 0), ci64 2]) := by
  cases h1 : decide (o < 1) with
  | true => exact RMot_p1 o b h1
  | false =>
    have h1' := of_decide_eq_false h1
    cases h2 : decide (o > 24) with
    | true => exact RMot_p2 o b h1 h2
    | false =>
      have h2' := of_decide_eq_false h2
      refine RMot_p3 o b h1 h2 ?_ (by omega)
      rw [Int.tmod_eq_emod_of_nonneg (by omega)]
      have : ¬ 24 % o = 0 := fun h => ho ⟨by omega, by omega, h⟩
      simpa using this
end Go.Fw
open Go
namespace Go.Fw
set_option maxRecDepth 100000

theorem ROrbB_p1 (i : Int) (o : Int) (b : Bool) (s4_0 : ¬okO o) : PCall P (29 : FuncId) [ci64 i, ci64 o, CV.lit (Value.bool b)] (CV.tup [CV.lit (Value.slice none 0 0), CV.lit (Value.int IntKind.i64 (2 : Int))]) :=
  pcallR (ors := [(4, Or.r (CV.tup [CV.lit (Value.slice none 0 0), CV.lit (Value.int IntKind.i64 (2 : Int))]))]) (by kernel_rfl) (.cons (Go.Fw.RMot_bad (o) (b) s4_0) .nil)
theorem ROrb_p1 (i : Int) (o : Int) (b : Bool) (s4_0 : okO o) {R : CV → Prop} (hR : Ok P (29 : FuncId) (loopHead P (29 : FuncId) 0) ⟨mkTm 48 [(0, MV.cv (CV.lit (Value.int IntKind.i64 i))), (8, MV.cv (CV.lst (cntM o b) (cellsM o b))), (10, MV.ptr 0 0), (11, MV.cv (CV.lit (Value.int IntKind.i64 (0 : Int))))], [some [MV.cv (CV.lit (Value.bool false)), MV.cv (CV.lit (Value.bool false)), MV.cv (CV.lit (Value.bool false)), MV.cv (CV.lit (Value.bool false)), MV.cv (CV.lit (Value.bool false)), MV.cv (CV.lit (Value.bool false)), MV.cv (CV.lit (Value.bool false)), MV.cv (CV.lit (Value.bool false)), MV.cv (CV.lit (Value.bool false)), MV.cv (CV.lit (Value.bool false)), MV.cv (CV.lit (Value.bool false)), MV.cv (CV.lit (Value.bool false)), MV.cv (CV.lit (Value.bool false)), MV.cv (CV.lit (Value.bool false)), MV.cv (CV.lit (Value.bool false)), MV.cv (CV.lit (Value.bool false)), MV.cv (CV.lit (Value.bool false)), MV.cv (CV.lit (Value.bool false)), MV.cv (CV.lit (Value.bool false)), MV.cv (CV.lit (Value.bool false)), MV.cv (CV.lit (Value.bool false)), MV.cv (CV.lit (Value.bool false)), MV.cv (CV.lit (Value.bool false)), MV.cv (CV.lit (Value.bool false))]]⟩ (.of R)) : PCallQ P (29 : FuncId) [ci64 i, ci64 o, CV.lit (Value.bool b)] R :=
  pcallS (keep := [0, 8, 10, 11]) (σ := [1]) (ors := [(4, Or.r (CV.tup [CV.lst (cntM o b) (cellsM o b), CV.lit (Value.int IntKind.i64 (0 : Int))])), (15, Or.stop)]) (by kernel_rfl) rfl (.cons (Go.Fw.RMot_ok (o) (b) s4_0) (.cons (show CvL [MV.cv (CV.lit (Value.bool false)), MV.cv (CV.lit (Value.bool false)), MV.cv (CV.lit (Value.bool false)), MV.cv (CV.lit (Value.bool false)), MV.cv (CV.lit (Value.bool false)), MV.cv (CV.lit (Value.bool false)), MV.cv (CV.lit (Value.bool false)), MV.cv (CV.lit (Value.bool false)), MV.cv (CV.lit (Value.bool false)), MV.cv (CV.lit (Value.bool false)), MV.cv (CV.lit (Value.bool false)), MV.cv (CV.lit (Value.bool false)), MV.cv (CV.lit (Value.bool false)), MV.cv (CV.lit (Value.bool false)), MV.cv (CV.lit (Value.bool false)), MV.cv (CV.lit (Value.bool false)), MV.cv (CV.lit (Value.bool false)), MV.cv (CV.lit (Value.bool false)), MV.cv (CV.lit (Value.bool false)), MV.cv (CV.lit (Value.bool false)), MV.cv (CV.lit (Value.bool false)), MV.cv (CV.lit (Value.bool false)), MV.cv (CV.lit (Value.bool false)), MV.cv (CV.lit (Value.bool false))] from (by simp [CvL])) .nil)) hR
theorem ROL_p1 (i : Int) (n : Nat) (k : Int) (mt : Int) (mf : Bool) (es : List CV) (ths : List CV) (h1 : (decide (k < (↑n : Int))) = true) (o1 : (0 : Int) ≤ k ∧ k < (↑n : Int)) (o2 : List.take 2 (List.drop (k.toNat * 2) es) = [CV.lit (Value.int IntKind.i64 mt), CV.lit (Value.bool mf)]) (o5 : (0 : Int) ≤ idxM mt mf i ∧ idxM mt mf i < (24 : Int)) (o6 : 0 + (idxM mt mf i).toNat * 1 + 1 ≤ (own ths).length) (o7 : CvL (setCells (own ths) (0 + (idxM mt mf i).toNat * 1) [MV.cv (CV.lit (Value.bool true))])) {R : Goal} (hn : lentOk R.n [0] = true) (hR : Ok P (29 : FuncId) (loopHead P (29 : FuncId) 0) ⟨mkTm 48 [(0, MV.cv (CV.lit (Value.int IntKind.i64 i))), (8, MV.cv (CV.lst n es)), (10, MV.ptr 0 0), (11, MV.cv (CV.lit (Value.int IntKind.i64 (IntKind.i64.wrap (k + (1 : Int))))))], [some (setCells (own ths) (0 + (idxM mt mf i).toNat * 1) [MV.cv (CV.lit (Value.bool true))])]⟩ R) : Ok P (29 : FuncId) (loopHead P (29 : FuncId) 0) ({ tm := mkTm 48 [(0, MV.cv (ci64 i)), (8, MV.cv (CV.lst n es)), (10, MV.ptr 0 0), (11, MV.cv (ci64 k))], hp := [some (own ths)] }) R :=
  okS (keep := [0, 8, 10, 11]) (σ := [0]) (ors := [(5, Or.b true), (9, Or.r (CV.agg [CV.lit (Value.int IntKind.i64 mt), CV.lit (Value.bool mf)])), (11, Or.r (CV.lit (Value.int IntKind.i64 (idxM mt mf i)))), (17, Or.stop)]) (by kernel_rfl) rfl (.cons h1 (.cons o1 (.cons o2 (.cons (show 2 = 2 from (by decide)) (.cons (Go.Fw.RIndex_spec (mt) (mf) (i)) (.cons o5 (.cons o6 (.cons o7 .nil)))))))) hn hR
theorem ROL_p2 (i : Int) (n : Nat) (k : Int) (_mt : Int) (_mf : Bool) (es : List CV) (ths : List CV) (h1 : (decide (k < (↑n : Int))) = false) (o1 : CvL (own ths)) {R : Goal} (hn : lentOk R.n [0] = true) (hR : Ok P (29 : FuncId) (loopHead P (29 : FuncId) 1) ⟨mkTm 48 [(10, MV.ptr 0 0), (12, MV.cv (CV.lit (Value.slice none 0 0))), (13, MV.cv (CV.lit (Value.int IntKind.i64 (0 : Int))))], [some (own ths)]⟩ R) : Ok P (29 : FuncId) (loopHead P (29 : FuncId) 0) ({ tm := mkTm 48 [(0, MV.cv (ci64 i)), (8, MV.cv (CV.lst n es)), (10, MV.ptr 0 0), (11, MV.cv (ci64 k))], hp := [some (own ths)] }) R :=
  okS (keep := [10, 12, 13]) (σ := [0]) (ors := [(5, Or.b false), (8, Or.stop)]) (by kernel_rfl) rfl (.cons h1 (.cons o1 .nil)) hn hR
theorem ROX_p1 (i : Int) (n : Nat) (k : Int) (h : decide (k < (↑n : Int)) = false) (es : List CV) (t : Nat → Bool) {R : Goal} (hn : lentOk R.n [0] = true) (hR : Ok P (29 : FuncId) (loopHead P (29 : FuncId) 1) ⟨mkTm 48 [(10, MV.ptr 0 0), (12, MV.cv (CV.lit (Value.slice none 0 0))), (13, MV.cv (CV.lit (Value.int IntKind.i64 (0 : Int))))], [some [MV.cv (CV.lit (Value.bool (t 0))), MV.cv (CV.lit (Value.bool (t 1))), MV.cv (CV.lit (Value.bool (t 2))), MV.cv (CV.lit (Value.bool (t 3))), MV.cv (CV.lit (Value.bool (t 4))), MV.cv (CV.lit (Value.bool (t 5))), MV.cv (CV.lit (Value.bool (t 6))), MV.cv (CV.lit (Value.bool (t 7))), MV.cv (CV.lit (Value.bool (t 8))), MV.cv (CV.lit (Value.bool (t 9))), MV.cv (CV.lit (Value.bool (t 10))), MV.cv (CV.lit (Value.bool (t 11))), MV.cv (CV.lit (Value.bool (t 12))), MV.cv (CV.lit (Value.bool (t 13))), MV.cv (CV.lit (Value.bool (t 14))), MV.cv (CV.lit (Value.bool (t 15))), MV.cv (CV.lit (Value.bool (t 16))), MV.cv (CV.lit (Value.bool (t 17))), MV.cv (CV.lit (Value.bool (t 18))), MV.cv (CV.lit (Value.bool (t 19))), MV.cv (CV.lit (Value.bool (t 20))), MV.cv (CV.lit (Value.bool (t 21))), MV.cv (CV.lit (Value.bool (t 22))), MV.cv (CV.lit (Value.bool (t 23)))]]⟩ R) : Ok P (29 : FuncId) (loopHead P (29 : FuncId) 0) ({ tm := mkTm 48 [(0, MV.cv (ci64 i)), (8, MV.cv (CV.lst n es)), (10, MV.ptr 0 0), (11, MV.cv (ci64 k))], hp := [some (thsM t)] }) R :=
  okS (keep := [10, 12, 13]) (σ := [0]) (ors := [(5, Or.b false), (8, Or.stop)]) (by kernel_rfl) rfl (.cons h (.cons (show CvL [MV.cv (CV.lit (Value.bool (t 0))), MV.cv (CV.lit (Value.bool (t 1))), MV.cv (CV.lit (Value.bool (t 2))), MV.cv (CV.lit (Value.bool (t 3))), MV.cv (CV.lit (Value.bool (t 4))), MV.cv (CV.lit (Value.bool (t 5))), MV.cv (CV.lit (Value.bool (t 6))), MV.cv (CV.lit (Value.bool (t 7))), MV.cv (CV.lit (Value.bool (t 8))), MV.cv (CV.lit (Value.bool (t 9))), MV.cv (CV.lit (Value.bool (t 10))), MV.cv (CV.lit (Value.bool (t 11))), MV.cv (CV.lit (Value.bool (t 12))), MV.cv (CV.lit (Value.bool (t 13))), MV.cv (CV.lit (Value.bool (t 14))), MV.cv (CV.lit (Value.bool (t 15))), MV.cv (CV.lit (Value.bool (t 16))), MV.cv (CV.lit (Value.bool (t 17))), MV.cv (CV.lit (Value.bool (t 18))), MV.cv (CV.lit (Value.bool (t 19))), MV.cv (CV.lit (Value.bool (t 20))), MV.cv (CV.lit (Value.bool (t 21))), MV.cv (CV.lit (Value.bool (t 22))), MV.cv (CV.lit (Value.bool (t 23)))] from (by simp [CvL])) .nil)) hn hR
end Go.Fw
open Go
namespace Go.Fw
set_option maxRecDepth 100000

theorem ROE_p1 (t : Nat → Bool) {R : Goal} (hR : R.c (CV.tup [CV.lit (Value.slice none 0 0), CV.lit (Value.int IntKind.i64 (0 : Int))])) : Ok P (29 : FuncId) (loopHead P (29 : FuncId) 1) ({ tm := mkTm 48 [(10, MV.ptr 0 0), (12, MV.cv (CV.lit (Value.slice none 0 0))), (13, MV.cv (ci64 (24 : Int)))], hp := [some (thsM t)] }) R :=
  okR (ors := []) (by kernel_rfl) .nil hR
theorem ROF_p1 (t : Nat → Bool) (c : Nat) (out : List CV) (o0 : List.take (c * 1) (List.drop 0 (own out)) = List.map MV.cv out) {R : Goal} (hR : R.c (CV.tup [CV.lst c out, CV.lit (Value.int IntKind.i64 (0 : Int))])) : Ok P (29 : FuncId) (loopHead P (29 : FuncId) 1) ({ tm := mkTm 48 [(10, MV.ptr 0 0), (12, MV.sl 1 0 c 1), (13, MV.cv (ci64 (24 : Int)))], hp := [some (thsM t), some (own out)] }) R :=
  okR (ors := [(7, Or.r (CV.lit undef) [out])]) (by kernel_rfl) (.cons o0 .nil) hR
end Go.Fw
open Go
namespace Go.Fw
set_option maxRecDepth 100000
set_option maxHeartbeats 1000000
section
variable (t : Nat → Bool) (p : Nat) (hp : p < 24)
include hp
theorem ROP1 (h1 : t p = true) {R : Goal} (hn : lentOk R.n [0, 2] = true) (hR : Ok P 29 (loopHead P 29 1) ⟨mkTm 48 [(10, .ptr 0 0), (12, .sl 1 0 1 1), (13, .cv (ci64 (p + 1)))], [some (thsM t), some [.cv (ci64 p)]]⟩ R) :
    Ok P 29 (loopHead P 29 1) ⟨mkTm 48 [(10, .ptr 0 0), (12, .cv (.lit (.slice none 0 0))), (13, .cv (ci64 p))], [some (thsM t)]⟩ R :=
  okS (keep := [10, 12, 13]) (σ := [0, 2]) (ors := [(7, Or.b true), (16, Or.stop)]) (by rcases lt24 hp with rfl | rfl | rfl | rfl | rfl | rfl | rfl | rfl | rfl | rfl | rfl | rfl | rfl | rfl | rfl | rfl | rfl | rfl | rfl | rfl | rfl | rfl | rfl | rfl <;> kernel_rfl) rfl
    (.cons (show (0 : Int) ≤ p ∧ (p : Int) < 24 by omega) (.cons h1 (.cons (show 8 ≤ 1099511627776 by decide) (.cons (show 1 ≤ 1099511627776 by decide) (.cons (show 0 < 1 by decide) (.cons (show 1 = 1 from rfl) (.cons (show CvL (own (thsC t)) from CvL.own _) (.cons (show CvL (own [ci64 p]) from CvL.own _) .nil)))))))) hn hR
theorem ROP2 (h1 : t p = false) {R : Goal} (hn : lentOk R.n [0] = true) (hR : Ok P 29 (loopHead P 29 1) ⟨mkTm 48 [(10, .ptr 0 0), (12, .cv (.lit (.slice none 0 0))), (13, .cv (ci64 (p + 1)))], [some (thsM t)]⟩ R) :
    Ok P 29 (loopHead P 29 1) ⟨mkTm 48 [(10, .ptr 0 0), (12, .cv (.lit (.slice none 0 0))), (13, .cv (ci64 p))], [some (thsM t)]⟩ R :=
  okS (keep := [10, 12, 13]) (σ := [0]) (ors := [(7, Or.b false), (11, Or.stop)]) (by rcases lt24 hp with rfl | rfl | rfl | rfl | rfl | rfl | rfl | rfl | rfl | rfl | rfl | rfl | rfl | rfl | rfl | rfl | rfl | rfl | rfl | rfl | rfl | rfl | rfl | rfl <;> kernel_rfl) rfl
    (.cons (show (0 : Int) ≤ p ∧ (p : Int) < 24 by omega) (.cons h1 (.cons (show CvL (own (thsC t)) from CvL.own _) .nil))) hn hR
theorem ROQ1 (c : Nat) (out : List CV) (h1 : t p = true) (hc : c < 24) (ho : out.length = c) {R : Goal} (hn : lentOk R.n [0, 3] = true) (hR : Ok P 29 (loopHead P 29 1) ⟨mkTm 48 [(10, .ptr 0 0), (12, .sl 1 0 (c + 1) 1), (13, .cv (ci64 (p + 1)))], [some (thsM t), some (own out ++ own [ci64 p])]⟩ R) :
    Ok P 29 (loopHead P 29 1) ⟨mkTm 48 [(10, .ptr 0 0), (12, .sl 1 0 c 1), (13, .cv (ci64 p))], [some (thsM t), some (own out)]⟩ R :=
  okS (keep := [10, 12, 13]) (σ := [0, 3]) (ors := [(7, Or.b true), (16, Or.stop)]) (by rcases lt24 hp with rfl | rfl | rfl | rfl | rfl | rfl | rfl | rfl | rfl | rfl | rfl | rfl | rfl | rfl | rfl | rfl | rfl | rfl | rfl | rfl | rfl | rfl | rfl | rfl <;> kernel_rfl) rfl
    (.cons (show (0 : Int) ≤ p ∧ (p : Int) < 24 by omega) (.cons h1 (.cons (show (c + 1) * 8 ≤ 1099511627776 by omega) (.cons (show c + 1 ≤ 1099511627776 by omega) (.cons (show (own out).length = c * 1 by simp [own, ho]) (.cons (show OneL (own [ci64 p]) by intro m hm; simp only [own, List.map_cons, List.map_nil, List.mem_cons, List.not_mem_nil, or_false] at hm; subst hm; rfl) (.cons (show 1 = 1 from rfl) (.cons (show CvL (own (thsC t)) from CvL.own _) (.cons (show CvL (own out ++ own [ci64 p]) by rw [← own_app]; exact CvL.own _) .nil))))))))) hn hR
theorem ROQ2 (c : Nat) (out : List CV) (h1 : t p = false) {R : Goal} (hn : lentOk R.n [0, 1] = true) (hR : Ok P 29 (loopHead P 29 1) ⟨mkTm 48 [(10, .ptr 0 0), (12, .sl 1 0 c 1), (13, .cv (ci64 (p + 1)))], [some (thsM t), some (own out)]⟩ R) :
    Ok P 29 (loopHead P 29 1) ⟨mkTm 48 [(10, .ptr 0 0), (12, .sl 1 0 c 1), (13, .cv (ci64 p))], [some (thsM t), some (own out)]⟩ R :=
  okS (keep := [10, 12, 13]) (σ := [0, 1]) (ors := [(7, Or.b false), (11, Or.stop)]) (by rcases lt24 hp with rfl | rfl | rfl | rfl | rfl | rfl | rfl | rfl | rfl | rfl | rfl | rfl | rfl | rfl | rfl | rfl | rfl | rfl | rfl | rfl | rfl | rfl | rfl | rfl <;> kernel_rfl) rfl
    (.cons (show (0 : Int) ≤ p ∧ (p : Int) < 24 by omega) (.cons h1 (.cons (show CvL (own (thsC t)) from CvL.own _) (.cons (CvL.own out) .nil)))) hn hR
end
theorem RO_list (t : Nat → Bool) {R : Goal} (hn : R.n = 0) : ∀ (d p : Nat) (out : List CV), p + d = 24 → out.length ≤ p → R.c (.tup [.lst (out ++ outFrom t p d).length (out ++ outFrom t p d), ci64 0]) →
    Ok P 29 (loopHead P 29 1) ⟨mkTm 48 [(10, .ptr 0 0), (12, .sl 1 0 out.length 1), (13, .cv (ci64 p))], [some (thsM t), some (own out)]⟩ R
  | 0, p, out, hp, _, hR => by
    have : p = 24 := by omega
    subst this
    refine ROF_p1 t out.length out (by rw [List.drop_zero]; exact List.take_of_length_le (by simp [own])) ?_
    simpa [outFrom] using hR
  | d + 1, p, out, hp, ho, hR => by
    have ih := RO_list t hn d (p + 1)
    cases h : t p with
    | true =>
      refine ROQ1 t p (by omega) out.length out h (by omega) rfl (by rw [hn]; rfl) ?_
      have := ih (out ++ [ci64 p]) (by omega) (by simp; omega) (by simpa [outFrom, h] using hR)
      rw [own_app, List.length_append] at this
      exact this
    | false =>
      refine ROQ2 t p (by omega) out.length out h (by rw [hn]; rfl) ?_
      exact ih out (by omega) (by omega) (by simpa [outFrom, h] using hR)
theorem RO_nil (t : Nat → Bool) {R : Goal} (hn : R.n = 0) : ∀ (d p : Nat), p + d = 24 → R.c (.tup [outV (outFrom t p d), ci64 0]) →
    Ok P 29 (loopHead P 29 1) ⟨mkTm 48 [(10, .ptr 0 0), (12, .cv (.lit (.slice none 0 0))), (13, .cv (ci64 p))], [some (thsM t)]⟩ R
  | 0, p, hp, hR => by
    have : p = 24 := by omega
    subst this
    exact ROE_p1 t hR
  | d + 1, p, hp, hR => by
    cases h : t p with
    | true =>
      refine ROP1 t p (by omega) h (by rw [hn]; rfl) ?_
      exact RO_list t hn d (p + 1) [ci64 p] (by omega) (by simp) (by simpa [outFrom, h, outV] using hR)
    | false =>
      refine ROP2 t p (by omega) h (by rw [hn]; rfl) ?_
      exact RO_nil t hn d (p + 1) (by omega) (by simpa [outFrom, h] using hR)
theorem RO_marks {R : Goal} (hn : R.n = 0) (i : Int) : ∀ (l2 l1 : List (Int × Bool)) (t : Nat → Bool), (l1 ++ l2).length ≤ 48 → R.c (.tup [outV (outFrom (l2.foldl (mark i) t) 0 24), ci64 0]) →
    Ok P 29 (loopHead P 29 0) ⟨mkTm 48 [(0, .cv (ci64 i)), (8, .cv (.lst (l1 ++ l2).length (flatM (l1 ++ l2)))), (10, .ptr 0 0), (11, .cv (ci64 l1.length))], [some (own (thsC t))]⟩ R
  | [], l1, t, hl, hR => by
    refine ROX_p1 i _ _ (decide_eq_false (by simp)) _ t (by rw [hn]; rfl) ?_
    exact RO_nil t hn 24 0 rfl hR
  | m :: l2, l1, t, hl, hR => by
    have hb := idxM_bd m.1 m.2 i
    refine ROL_p1 i _ _ m.1 m.2 _ _ (decide_eq_true (by simp; omega)) (by simp; omega) ?_ hb (by show 0 + (idxM m.1 m.2 i).toNat * 1 + 1 ≤ 24; omega) ?_ (by rw [hn]; rfl) ?_
    · rw [flatM_app]
      have : (l1.length : Int).toNat * 2 = (flatM l1).length := by rw [flatM_length]; simp
      rw [this, List.drop_left]; rfl
    · rw [orb_set t (by omega)]; exact CvL.own _
    · rw [orb_set t (by omega), w64 (by simp at hl; omega)]
      have := RO_marks hn i l2 (l1 ++ [m]) (mark i t m) (by simpa using hl) (by simpa using hR)
      rw [show l1 ++ m :: l2 = (l1 ++ [m]) ++ l2 by simp, show ((l1.length : Int) + 1) = ((l1 ++ [m]).length : Int) by simp]
      exact this
theorem ROrb_ok (i o : Int) (b : Bool) (ho : okO o) : PCall P 29 [ci64 i, ci64 o, .lit (.bool b)] (.tup [outV (outFrom (orbT o b i) 0 24), ci64 0]) := by
  refine ROrb_p1 i o b ho (R := (· = _)) ?_
  have h1 := ho.1
  have h2 := ho.2.1
  have := RO_marks (R := (· = CV.tup [outV (outFrom (orbT o b i) 0 24), ci64 0])) rfl i (motP o b) [] (fun _ => false) (by simp only [List.nil_append, ← cntM_length, cntM]; split <;> omega) rfl
  simp only [List.nil_append] at this
  rw [← cellsM_flat, ← cntM_length] at this
  exact this
end Go.Fw
open Go
namespace Go.Fw
set_option maxRecDepth 100000
theorem aOrb : PCall P 28 [ci64 1, ci64 8, .lit (.bool true)] (.tup [.lst 16 [ci64 1, ci64 2, ci64 4, ci64 5, ci64 7, ci64 8, ci64 10, ci64 11, ci64 13, ci64 14, ci64 16, ci64 17, ci64 19, ci64 20, ci64 22, ci64 23], ci64 0]) := (WOrb_ok 1 8 true (by unfold okO; decide)).eq (by kernel_rfl)
theorem aCos : PCall P 33 [ci64 1] (n5C 0 1 0 1 4) := (WCos_spec 1).eq (by kernel_rfl)
theorem aPrint : PCall P 120 [n5C 0 1 0 1 4] (.lit (.string ⟨#[49, 47, 52, 114, 50, 43, 49, 47, 52, 114, 54]⟩)) := pPr_p1.eq (by kernel_rfl)
theorem aVal : PCall P 55 [.agg [ci64 5, .lit (.bool false)]] (.lit (.bool true)) := WValid_spec 5 false
end Go.Fw
