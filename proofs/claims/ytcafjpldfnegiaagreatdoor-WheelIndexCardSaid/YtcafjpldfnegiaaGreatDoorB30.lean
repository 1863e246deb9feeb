/- A part of the proof that the law returns true for every input: an executor for the model's code, and what functions of the program compute. -/
import Derived.Test.YtcafjpldfnegiaaGreatDoorB09
import Derived.Test.YtcafjpldfnegiaaGreatDoorB14
import Derived.Test.YtcafjpldfnegiaaGreatDoorB29
import Derived.KernelRfl
open Go
namespace Go.Fw
set_option maxRecDepth 100000

/-- The cells of integers. -/
def icl (z : Int) : List MV := [.cv (.lit (.bool (decide (z < 0)))), .cv (.lit (.string (bytesOf z.natAbs)))]
def cl4 (X : Nat → Int) : List MV := [.cv (.lit (.bool (decide (X 0 < 0)))), .cv (.lit (.string (bytesOf (X 0).natAbs))), .cv (.lit (.bool (decide (X 1 < 0)))), .cv (.lit (.string (bytesOf (X 1).natAbs))), .cv (.lit (.bool (decide (X 2 < 0)))), .cv (.lit (.string (bytesOf (X 2).natAbs))), .cv (.lit (.bool (decide (X 3 < 0)))), .cv (.lit (.string (bytesOf (X 3).natAbs)))]
def cl5 (X : Nat → Int) (e : Int) : List MV := [.cv (.lit (.bool (decide (X 0 < 0)))), .cv (.lit (.string (bytesOf (X 0).natAbs))), .cv (.lit (.bool (decide (X 1 < 0)))), .cv (.lit (.string (bytesOf (X 1).natAbs))), .cv (.lit (.bool (decide (X 2 < 0)))), .cv (.lit (.string (bytesOf (X 2).natAbs))), .cv (.lit (.bool (decide (X 3 < 0)))), .cv (.lit (.string (bytesOf (X 3).natAbs))), .cv (.lit (.bool (decide (e < 0)))), .cv (.lit (.string (bytesOf e.natAbs)))]
theorem icl_cv (z : Int) : CvL (icl z) := by intro m hm; simp [icl] at hm; rcases hm with rfl | rfl <;> exact ⟨_, rfl⟩
theorem cl4_cv (X : Nat → Int) : CvL (cl4 X) := by intro m hm; simp [cl4] at hm; rcases hm with rfl | rfl | rfl | rfl | rfl | rfl | rfl | rfl <;> exact ⟨_, rfl⟩
theorem cl5_cv (X : Nat → Int) (e : Int) : CvL (cl5 X e) := by intro m hm; simp [cl5] at hm; rcases hm with rfl | rfl | rfl | rfl | rfl | rfl | rfl | rfl | rfl | rfl <;> exact ⟨_, rfl⟩

/-- The product's loops: i and j are the places, C is what has been added up. -/
def prodO (X Y C : Nat → Int) (e e' : Int) (i : Nat) : St := ⟨mkTm 62 [(2, .ptr 0 0), (3, .ptr 1 0), (4, .ptr 2 0), (5, .ptr 3 0), (12, .agg (cl4 X)), (13, .cv (.lit (.int .i64 (i : Int))))],
  [some (cl5 X e), some (cl5 Y e'), some (cl5 (fun _ => 0) 0), some (cl4 C)]⟩
def prodS (X Y C : Nat → Int) (e e' : Int) (i j : Nat) : St := ⟨mkTm 62 [(2, .ptr 0 0), (3, .ptr 1 0), (4, .ptr 2 0), (5, .ptr 3 0), (6, .cv (.lit (.int .i64 (i : Int)))), (7, .ptr 4 0), (12, .agg (cl4 X)), (13, .cv (.lit (.int .i64 (i : Int)))), (18, .agg (cl4 Y)), (19, .cv (.lit (.int .i64 (j : Int))))],
  [some (cl5 X e), some (cl5 Y e'), some (cl5 (fun _ => 0) 0), some (cl4 C), some (icl (X i))]⟩
def sq4 (i j : Nat) : Int := [1, 2, 3, 6].getD (i &&& j) 0
def upd4 (C : Nat → Int) (k : Nat) (z : Int) : Nat → Int := fun n => match Nat.beq n k with | true => z | false => C n

theorem prod_a (X Y C : Nat → Int) (e e' : Int) : ∀ i j, i < 4 → j < 4 →
    (runA P 201 (loopHead P 201 1) (prodS X Y C e e' i j) [(11, .b true), (19, .stop)] false 100000).pick [2, 3, 4, 5, 6, 7, 12, 13, 18, 19] [0, 1, 2, 3, 4] =
      some (loopHead P 201 1, prodS X Y C e e' i (j + 1), [(0 : Int) ≤ (j : Int) ∧ (j : Int) < 4, 2 ≤ 2, ((bytesOf (X i).natAbs).toList == []) = true, CvL (cl5 X e), CvL (cl5 Y e'), CvL (cl5 (fun _ => 0) 0), CvL (cl4 C), CvL (icl (X i))]) := by
  intro i j hi hj
  have hi' : i = 0 ∨ i = 1 ∨ i = 2 ∨ i = 3 := by omega
  have hj' : j = 0 ∨ j = 1 ∨ j = 2 ∨ j = 3 := by omega
  rcases hi' with rfl | rfl | rfl | rfl <;> rcases hj' with rfl | rfl | rfl | rfl <;> (show _ = _; kernel_rfl)
theorem prod_b (X Y C : Nat → Int) (e e' : Int) : ∀ i j, i < 4 → j < 4 →
    (runA P 201 (loopHead P 201 1) (prodS X Y C e e' i j) [(11, .b false), (16, .b true), (19, .stop)] false 100000).pick [2, 3, 4, 5, 6, 7, 12, 13, 18, 19] [0, 1, 2, 3, 4] =
      some (loopHead P 201 1, prodS X Y C e e' i (j + 1), [(0 : Int) ≤ (j : Int) ∧ (j : Int) < 4, 2 ≤ 2, ((bytesOf (X i).natAbs).toList == []) = false, ((bytesOf (Y j).natAbs).toList == []) = true, CvL (cl5 X e), CvL (cl5 Y e'), CvL (cl5 (fun _ => 0) 0), CvL (cl4 C), CvL (icl (X i))]) := by
  intro i j hi hj
  have hi' : i = 0 ∨ i = 1 ∨ i = 2 ∨ i = 3 := by omega
  have hj' : j = 0 ∨ j = 1 ∨ j = 2 ∨ j = 3 := by omega
  rcases hi' with rfl | rfl | rfl | rfl <;> rcases hj' with rfl | rfl | rfl | rfl <;> (show _ = _; kernel_rfl)
theorem prod_c (X Y C : Nat → Int) (e e' : Int) : ∀ i j, i < 4 → j < 4 →
    (runA P 201 (loopHead P 201 1) (prodS X Y C e e' i j) [(11, .b false), (16, .b false), (23, .r (intC (sq4 i j))), (37, .r (intC (X i * Y j))), (38, .r (intC (sq4 i j * (X i * Y j)))), (39, .r (intC (C (i ^^^ j) + sq4 i j * (X i * Y j)))), (44, .stop)] false 100000).pick [2, 3, 4, 5, 6, 7, 12, 13, 18, 19] [0, 1, 2, 3, 4] =
      some (loopHead P 201 1, prodS X Y (upd4 C (i ^^^ j) (C (i ^^^ j) + sq4 i j * (X i * Y j))) e e' i (j + 1), [(0 : Int) ≤ (j : Int) ∧ (j : Int) < 4, 2 ≤ 2, ((bytesOf (X i).natAbs).toList == []) = false, ((bytesOf (Y j).natAbs).toList == []) = false,
        (0 : Int) ≤ ((i &&& j : Nat) : Int) ∧ ((i &&& j : Nat) : Int) < 4, PCall P 206 [ci64 (sq4 i j)] (intC (sq4 i j)), 2 ≤ 2, (0 : Int) ≤ ((i ^^^ j : Nat) : Int) ∧ ((i ^^^ j : Nat) : Int) < 4,
        PCall P 203 [intC (X i), intC (Y j)] (intC (X i * Y j)), PCall P 203 [intC (sq4 i j), intC (X i * Y j)] (intC (sq4 i j * (X i * Y j))), PCall P 202 [intC (C (i ^^^ j)), intC (sq4 i j * (X i * Y j))] (intC (C (i ^^^ j) + sq4 i j * (X i * Y j))),
        (0 : Int) ≤ ((i ^^^ j : Nat) : Int) ∧ ((i ^^^ j : Nat) : Int) < 4, (i ^^^ j) * 2 + 2 ≤ 8,
        CvL (cl5 X e), CvL (cl5 Y e'), CvL (cl5 (fun _ => 0) 0), CvL (cl4 (upd4 C (i ^^^ j) (C (i ^^^ j) + sq4 i j * (X i * Y j)))), CvL (icl (X i))]) := by
  intro i j hi hj
  have hi' : i = 0 ∨ i = 1 ∨ i = 2 ∨ i = 3 := by omega
  have hj' : j = 0 ∨ j = 1 ∨ j = 2 ∨ j = 3 := by omega
  rcases hi' with rfl | rfl | rfl | rfl <;> rcases hj' with rfl | rfl | rfl | rfl <;> (show _ = _; kernel_rfl)
theorem prod_o (X Y C : Nat → Int) (e e' : Int) : ∀ i, i < 4 →
    (runA P 201 (loopHead P 201 0) (prodO X Y C e e' i) [(11, .stop)] false 100000).pick [2, 3, 4, 5, 6, 7, 12, 13, 18, 19] [0, 1, 2, 3, 4] =
      some (loopHead P 201 1, prodS X Y C e e' i 0, [(0 : Int) ≤ (i : Int) ∧ (i : Int) < 4, 2 ≤ 2, CvL (cl5 X e), CvL (cl5 Y e'), CvL (cl5 (fun _ => 0) 0), CvL (cl4 C), CvL (icl (X i))]) := by
  intro i hi
  have hi' : i = 0 ∨ i = 1 ∨ i = 2 ∨ i = 3 := by omega
  rcases hi' with rfl | rfl | rfl | rfl <;> (show _ = _; kernel_rfl)
theorem prod_e (X Y C : Nat → Int) (e e' : Int) : ∀ i, i < 4 →
    (runA P 201 (loopHead P 201 1) (prodS X Y C e e' i 4) [(5, .stop)] false 100000).pick [2, 3, 4, 5, 12, 13] [0, 1, 2, 3] =
      some (loopHead P 201 0, prodO X Y C e e' (i + 1), [CvL (cl5 X e), CvL (cl5 Y e'), CvL (cl5 (fun _ => 0) 0), CvL (cl4 C)]) := by
  intro i hi
  have hi' : i = 0 ∨ i = 1 ∨ i = 2 ∨ i = 3 := by omega
  rcases hi' with rfl | rfl | rfl | rfl <;> (show _ = _; kernel_rfl)
theorem prod_z (X Y C : Nat → Int) (e e' : Int) :
    runA P 201 (loopHead P 201 0) (prodO X Y C e e' 4) [(8, .r (intC (e * e'))), (9, .r (numC (K.of (C 0) (C 1) (C 2) (C 3) (e * e'))))] false 100000 =
      .ret (numC (K.of (C 0) (C 1) (C 2) (C 3) (e * e'))) [PCall P 203 [intC e, intC e'] (intC (e * e')), PCall P 204 [c4C (C 0) (C 1) (C 2) (C 3), intC (e * e')] (numC (K.of (C 0) (C 1) (C 2) (C 3) (e * e'))), 10 ≤ 10] := by
  show _ = _
  kernel_rfl

/-- What stands at a place behind a step. -/
def stepC (X Y : Nat → Int) (i j : Nat) (C : Nat → Int) : Nat → Int := upd4 C (i ^^^ j) (C (i ^^^ j) + sq4 i j * (X i * Y j))
theorem stepC_zero {X Y : Nat → Int} {i j : Nat} (C : Nat → Int) (h : X i * Y j = 0) : stepC X Y i j C = C := by
  funext n
  unfold stepC upd4
  split
  · rename_i hn; rw [Nat.eq_of_beq_eq_true hn, h]; simp
  · rfl
theorem beq_nil {z : Int} : ((bytesOf z.natAbs).toList == []) = decide (z = 0) := by
  rw [toList_bytesOf]; exact decide_eq_decide.2 (by omega)
theorem sq4_bd : ∀ i, i < 4 → ∀ j, j < 4 → 0 < sq4 i j ∧ sq4 i j ≤ 6 := by decide

section
variable {X Y : Nat → Int} {e e' : Int} {p q : Nat} (hp : p + q + 2 < 1073741824) (hX : ∀ i, (X i).natAbs < 256 ^ p) (hY : ∀ i, (Y i).natAbs < 256 ^ q)
include hp hX hY
omit hp in
theorem prod_mul_bd (i j : Nat) : (X i * Y j).natAbs < 256 ^ (p + q) := by
  rw [Int.natAbs_mul]; exact K.mul_lt_pow (hX i) (hY j)
theorem prod_step {R : Goal} (hn : lentOk R.n [0, 1, 2, 3, 4] = true) (i j t : Nat) (hi : i < 4) (hj : j < 4) (ht : t ≤ 20) (C : Nat → Int) (hC : ∀ k, (C k).natAbs ≤ t * 6 * 256 ^ (p + q))
    (hR : Ok P 201 (loopHead P 201 1) (prodS X Y (stepC X Y i j C) e e' i (j + 1)) R) : Ok P 201 (loopHead P 201 1) (prodS X Y C e e' i j) R := by
  have hjj : (0 : Int) ≤ (j : Int) ∧ (j : Int) < 4 := by omega
  by_cases ha : X i = 0
  · rw [stepC_zero C (by rw [ha, Int.zero_mul])] at hR
    exact okS (prod_a X Y C e e' i j hi hj) rfl (.cons hjj (.cons (Nat.le_refl _) (.cons (by rw [beq_nil, ha]; rfl) (.cons (cl5_cv _ _) (.cons (cl5_cv _ _) (.cons (cl5_cv _ _) (.cons (cl4_cv _) (.cons (icl_cv _) .nil)))))))) hn hR
  · by_cases hb : Y j = 0
    · rw [stepC_zero C (by rw [hb, Int.mul_zero])] at hR
      exact okS (prod_b X Y C e e' i j hi hj) rfl (.cons hjj (.cons (Nat.le_refl _) (.cons (by rw [beq_nil]; simpa using ha) (.cons (by rw [beq_nil, hb]; rfl) (.cons (cl5_cv _ _) (.cons (cl5_cv _ _) (.cons (cl5_cv _ _) (.cons (cl4_cv _) (.cons (icl_cv _) .nil))))))))) hn hR
    · have hm := prod_mul_bd hX hY i j
      obtain ⟨s1, s2⟩ := sq4_bd i hi j hj
      have hw : 256 ^ (p + q + 1) = 256 * 256 ^ (p + q) := by rw [Nat.pow_succ, Nat.mul_comm]
      have hf : (sq4 i j * (X i * Y j)).natAbs < 6 * 256 ^ (p + q) + 1 := by
        rw [Int.natAbs_mul]
        have : (sq4 i j).natAbs ≤ 6 := by omega
        have := Nat.mul_le_mul this (Nat.le_of_lt hm)
        omega
      have smX : SmlZ (X i) := Sml.of_lt (hX i) (by omega)
      have smY : SmlZ (Y j) := Sml.of_lt (hY j) (by omega)
      have smM : Sml ((X i).natAbs * (Y j).natAbs) := by rw [← Int.natAbs_mul]; exact Sml.of_lt hm (by omega)
      have smS : SmlZ (sq4 i j) := small_word (by omega)
      have smM' : SmlZ (X i * Y j) := Sml.of_lt hm (by omega)
      have hCk := hC (i ^^^ j)
      have ht6 : t * 6 * 256 ^ (p + q) ≤ 120 * 256 ^ (p + q) := Nat.mul_le_mul_right _ (by omega)
      have hpp : 0 < 256 ^ (p + q) := Nat.pow_pos (by decide)
      have smF : SmlZ (sq4 i j * (X i * Y j)) := Sml.of_lt (k := p + q + 1) (by omega) (by omega)
      have smF2 : Sml ((sq4 i j).natAbs * (X i * Y j).natAbs) := by rw [← Int.natAbs_mul]; exact smF
      have smC : SmlZ (C (i ^^^ j)) := Sml.of_lt (k := p + q + 1) (by omega) (by omega)
      have smA : Sml ((C (i ^^^ j)).natAbs + (sq4 i j * (X i * Y j)).natAbs) := Sml.of_lt (k := p + q + 1) (by omega) (by omega)
      have hx4 : i ^^^ j < 4 := Nat.xor_lt_two_pow (n := 2) (by simpa using hi) (by simpa using hj)
      have ha4 : i &&& j < 4 := Nat.lt_of_le_of_lt Nat.and_le_left hi
      exact okS (prod_c X Y C e e' i j hi hj) rfl (.cons hjj (.cons (Nat.le_refl _) (.cons (by rw [beq_nil]; simpa using ha) (.cons (by rw [beq_nil]; simpa using hb) (.cons (by omega) (.cons (Of_spec _ (by omega)) (.cons (Nat.le_refl _) (.cons (by omega)
        (.cons (Mul_spec _ _ smX smY smM) (.cons (Mul_spec _ _ smS smM' smF2) (.cons (Add_spec _ _ smC smF smA) (.cons (by omega) (.cons (by omega) (.cons (cl5_cv _ _) (.cons (cl5_cv _ _) (.cons (cl5_cv _ _) (.cons (cl4_cv _) (.cons (icl_cv _) .nil)))))))))))))))))) hn hR
omit hp in
theorem stepC_bd (i j t : Nat) (hi : i < 4) (hj : j < 4) (C : Nat → Int) (hC : ∀ k, (C k).natAbs ≤ t * 6 * 256 ^ (p + q)) : ∀ k, (stepC X Y i j C k).natAbs ≤ (t + 1) * 6 * 256 ^ (p + q) := by
  intro k
  have hm := prod_mul_bd hX hY i j
  obtain ⟨s1, s2⟩ := sq4_bd i hi j hj
  have hf : (sq4 i j * (X i * Y j)).natAbs ≤ 6 * 256 ^ (p + q) := by
    rw [Int.natAbs_mul]
    exact Nat.mul_le_mul (by omega) (Nat.le_of_lt hm)
  have e1 : (t + 1) * 6 * 256 ^ (p + q) = t * 6 * 256 ^ (p + q) + 6 * 256 ^ (p + q) := by rw [Nat.add_mul, Nat.one_mul, Nat.add_mul]
  unfold stepC upd4
  split
  · have := hC (i ^^^ j); omega
  · have := hC k; omega
end
end Go.Fw
open Go
namespace Go.Fw
set_option maxRecDepth 100000

theorem prodF_p1 (a : Int) (b : Int) (c : Int) (d : Int) (e : Int) (a' : Int) (b' : Int) (c' : Int) (d' : Int) (e' : Int) {R : CV → Prop} (hR : Ok P (201 : FuncId) (loopHead P (201 : FuncId) 0) ⟨mkTm 62 [(2, MV.ptr 0 0), (3, MV.ptr (0 + 1) 0), (4, MV.ptr (0 + 1 + 1) 0), (5, MV.ptr (0 + 1 + 1 + 1) 0), (12, MV.agg [MV.cv (CV.lit (Value.bool (decide (a < (0 : Int))))), MV.cv (CV.lit (Value.string (bytesOf a.natAbs))), MV.cv (CV.lit (Value.bool (decide (b < (0 : Int))))), MV.cv (CV.lit (Value.string (bytesOf b.natAbs))), MV.cv (CV.lit (Value.bool (decide (c < (0 : Int))))), MV.cv (CV.lit (Value.string (bytesOf c.natAbs))), MV.cv (CV.lit (Value.bool (decide (d < (0 : Int))))), MV.cv (CV.lit (Value.string (bytesOf d.natAbs)))]), (13, MV.cv (CV.lit (Value.int IntKind.i64 (0 : Int))))], [some [MV.cv (CV.lit (Value.bool (decide (a < (0 : Int))))), MV.cv (CV.lit (Value.string (bytesOf a.natAbs))), MV.cv (CV.lit (Value.bool (decide (b < (0 : Int))))), MV.cv (CV.lit (Value.string (bytesOf b.natAbs))), MV.cv (CV.lit (Value.bool (decide (c < (0 : Int))))), MV.cv (CV.lit (Value.string (bytesOf c.natAbs))), MV.cv (CV.lit (Value.bool (decide (d < (0 : Int))))), MV.cv (CV.lit (Value.string (bytesOf d.natAbs))), MV.cv (CV.lit (Value.bool (decide (e < (0 : Int))))), MV.cv (CV.lit (Value.string (bytesOf e.natAbs)))], some [MV.cv (CV.lit (Value.bool (decide (a' < (0 : Int))))), MV.cv (CV.lit (Value.string (bytesOf a'.natAbs))), MV.cv (CV.lit (Value.bool (decide (b' < (0 : Int))))), MV.cv (CV.lit (Value.string (bytesOf b'.natAbs))), MV.cv (CV.lit (Value.bool (decide (c' < (0 : Int))))), MV.cv (CV.lit (Value.string (bytesOf c'.natAbs))), MV.cv (CV.lit (Value.bool (decide (d' < (0 : Int))))), MV.cv (CV.lit (Value.string (bytesOf d'.natAbs))), MV.cv (CV.lit (Value.bool (decide (e' < (0 : Int))))), MV.cv (CV.lit (Value.string (bytesOf e'.natAbs)))], some [MV.cv (CV.lit (Value.bool false)), MV.cv (CV.lit (Value.string { data := #[] })), MV.cv (CV.lit (Value.bool false)), MV.cv (CV.lit (Value.string { data := #[] })), MV.cv (CV.lit (Value.bool false)), MV.cv (CV.lit (Value.string { data := #[] })), MV.cv (CV.lit (Value.bool false)), MV.cv (CV.lit (Value.string { data := #[] })), MV.cv (CV.lit (Value.bool false)), MV.cv (CV.lit (Value.string { data := #[] }))], some [MV.cv (CV.lit (Value.bool false)), MV.cv (CV.lit (Value.string { data := #[] })), MV.cv (CV.lit (Value.bool false)), MV.cv (CV.lit (Value.string { data := #[] })), MV.cv (CV.lit (Value.bool false)), MV.cv (CV.lit (Value.string { data := #[] })), MV.cv (CV.lit (Value.bool false)), MV.cv (CV.lit (Value.string { data := #[] }))]]⟩ (.of R)) : PCallQ P (201 : FuncId) [n5C a b c d e, n5C a' b' c' d' e'] R :=
  pcallS (keep := [2, 3, 4, 5, 12, 13]) (σ := [0, 1, 2, 3]) (ors := [(7, Or.stop)]) (by kernel_rfl) rfl (.cons (show CvL [MV.cv (CV.lit (Value.bool (decide (a < (0 : Int))))), MV.cv (CV.lit (Value.string (bytesOf a.natAbs))), MV.cv (CV.lit (Value.bool (decide (b < (0 : Int))))), MV.cv (CV.lit (Value.string (bytesOf b.natAbs))), MV.cv (CV.lit (Value.bool (decide (c < (0 : Int))))), MV.cv (CV.lit (Value.string (bytesOf c.natAbs))), MV.cv (CV.lit (Value.bool (decide (d < (0 : Int))))), MV.cv (CV.lit (Value.string (bytesOf d.natAbs))), MV.cv (CV.lit (Value.bool (decide (e < (0 : Int))))), MV.cv (CV.lit (Value.string (bytesOf e.natAbs)))] from (by simp [CvL])) (.cons (show CvL [MV.cv (CV.lit (Value.bool (decide (a' < (0 : Int))))), MV.cv (CV.lit (Value.string (bytesOf a'.natAbs))), MV.cv (CV.lit (Value.bool (decide (b' < (0 : Int))))), MV.cv (CV.lit (Value.string (bytesOf b'.natAbs))), MV.cv (CV.lit (Value.bool (decide (c' < (0 : Int))))), MV.cv (CV.lit (Value.string (bytesOf c'.natAbs))), MV.cv (CV.lit (Value.bool (decide (d' < (0 : Int))))), MV.cv (CV.lit (Value.string (bytesOf d'.natAbs))), MV.cv (CV.lit (Value.bool (decide (e' < (0 : Int))))), MV.cv (CV.lit (Value.string (bytesOf e'.natAbs)))] from (by simp [CvL])) (.cons (show CvL [MV.cv (CV.lit (Value.bool false)), MV.cv (CV.lit (Value.string { data := #[] })), MV.cv (CV.lit (Value.bool false)), MV.cv (CV.lit (Value.string { data := #[] })), MV.cv (CV.lit (Value.bool false)), MV.cv (CV.lit (Value.string { data := #[] })), MV.cv (CV.lit (Value.bool false)), MV.cv (CV.lit (Value.string { data := #[] })), MV.cv (CV.lit (Value.bool false)), MV.cv (CV.lit (Value.string { data := #[] }))] from (by simp [CvL])) (.cons (show CvL [MV.cv (CV.lit (Value.bool false)), MV.cv (CV.lit (Value.string { data := #[] })), MV.cv (CV.lit (Value.bool false)), MV.cv (CV.lit (Value.string { data := #[] })), MV.cv (CV.lit (Value.bool false)), MV.cv (CV.lit (Value.string { data := #[] })), MV.cv (CV.lit (Value.bool false)), MV.cv (CV.lit (Value.string { data := #[] }))] from (by simp [CvL])) .nil)))) hR
end Go.Fw
open Go
namespace Go.Fw
set_option maxRecDepth 100000
section
variable {X Y : Nat → Int} {e e' : Int} {p q : Nat} (hp : p + q + 2 < 1073741824) (hX : ∀ i, (X i).natAbs < 256 ^ p) (hY : ∀ i, (Y i).natAbs < 256 ^ q)
include hp hX hY
theorem prod_outer {R : Goal} (hn : lentOk R.n [0, 1, 2, 3, 4] = true) (hn' : lentOk R.n [0, 1, 2, 3] = true) (i t : Nat) (hi : i < 4) (ht : t ≤ 16) (C : Nat → Int) (hC : ∀ k, (C k).natAbs ≤ t * 6 * 256 ^ (p + q))
    (hR : Ok P 201 (loopHead P 201 0) (prodO X Y (stepC X Y i 3 (stepC X Y i 2 (stepC X Y i 1 (stepC X Y i 0 C)))) e e' (i + 1)) R) : Ok P 201 (loopHead P 201 0) (prodO X Y C e e' i) R := by
  have b0 := stepC_bd hX hY i 0 t hi (by decide) C hC
  have b1 := stepC_bd hX hY i 1 (t + 1) hi (by decide) _ b0
  have b2 := stepC_bd hX hY i 2 (t + 2) hi (by decide) _ b1
  refine okS (prod_o X Y C e e' i hi) rfl (.cons (by omega) (.cons (Nat.le_refl _) (.cons (cl5_cv _ _) (.cons (cl5_cv _ _) (.cons (cl5_cv _ _) (.cons (cl4_cv _) (.cons (icl_cv _) .nil))))))) hn ?_
  refine prod_step hp hX hY hn i 0 t hi (by decide) (by omega) C hC ?_
  refine prod_step hp hX hY hn i 1 (t + 1) hi (by decide) (by omega) _ b0 ?_
  refine prod_step hp hX hY hn i 2 (t + 2) hi (by decide) (by omega) _ b1 ?_
  refine prod_step hp hX hY hn i 3 (t + 3) hi (by decide) (by omega) _ b2 ?_
  exact okS (prod_e X Y _ e e' i hi) rfl (.cons (cl5_cv _ _) (.cons (cl5_cv _ _) (.cons (cl5_cv _ _) (.cons (cl4_cv _) .nil)))) hn' hR
omit hp in
theorem outer_bd (i t : Nat) (hi : i < 4) (C : Nat → Int) (hC : ∀ k, (C k).natAbs ≤ t * 6 * 256 ^ (p + q)) : ∀ k, (stepC X Y i 3 (stepC X Y i 2 (stepC X Y i 1 (stepC X Y i 0 C))) k).natAbs ≤ (t + 4) * 6 * 256 ^ (p + q) := by
  have b0 := stepC_bd hX hY i 0 t hi (by decide) C hC
  have b1 := stepC_bd hX hY i 1 (t + 1) hi (by decide) _ b0
  have b2 := stepC_bd hX hY i 2 (t + 2) hi (by decide) _ b1
  exact stepC_bd hX hY i 3 (t + 3) hi (by decide) _ b2
end
/-- The integers of a number by their places. -/
def coef (x : K) (i : Nat) : Int := match i with | 0 => x.c0 | 1 => x.c1 | 2 => x.c2 | _ => x.c3
def rowC (X Y : Nat → Int) (i : Nat) (C : Nat → Int) : Nat → Int := stepC X Y i 3 (stepC X Y i 2 (stepC X Y i 1 (stepC X Y i 0 C)))
theorem coef_bd (x : K) (i : Nat) : (coef x i).natAbs < 256 ^ K.sz x := by
  obtain ⟨h0, h1, h2, h3, _⟩ := K.sz_lt x
  unfold coef; split <;> assumption
theorem SmlZ.sz {x : K} (h : K.sz x < 1073741824) : SmlZ x.c0 ∧ SmlZ x.c1 ∧ SmlZ x.c2 ∧ SmlZ x.c3 ∧ SmlZ x.d := by
  obtain ⟨h0, h1, h2, h3, h4⟩ := K.sz_lt x
  exact ⟨Sml.of_lt h0 h, Sml.of_lt h1 h, Sml.of_lt h2 h, Sml.of_lt h3 h, Sml.of_lt h4 h⟩
/-- The product of numbers. -/
theorem prod_spec (x y : K) (h : K.sz x + K.sz y + 2 < 1073741824) : PCall P 201 [numC x, numC y] (numC (x * y)) := by
  have hX := coef_bd x
  have hY := coef_bd y
  have hd := (K.sz_lt x).2.2.2.2
  have hd' := (K.sz_lt y).2.2.2.2
  refine prodF_p1 x.c0 x.c1 x.c2 x.c3 x.d y.c0 y.c1 y.c2 y.c3 y.d ?_
  have c0 : ∀ k : Nat, ((fun _ => 0 : Nat → Int) k).natAbs ≤ 0 * 6 * 256 ^ (K.sz x + K.sz y) := by intro k; simp
  have c1 := outer_bd hX hY 0 0 (by decide) _ c0
  have c2 := outer_bd hX hY 1 4 (by decide) _ c1
  have c3 := outer_bd hX hY 2 8 (by decide) _ c2
  have c4 := outer_bd hX hY 3 12 (by decide) _ c3
  have main : Ok P 201 (loopHead P 201 0) (prodO (coef x) (coef y) (fun _ => 0) x.d y.d 0) (.of (fun v => v = numC (x * y))) := by
    refine prod_outer h hX hY rfl rfl 0 0 (by decide) (by decide) _ c0 ?_
    refine prod_outer h hX hY rfl rfl 1 4 (by decide) (by decide) _ c1 ?_
    refine prod_outer h hX hY rfl rfl 2 8 (by decide) (by decide) _ c2 ?_
    refine prod_outer h hX hY rfl rfl 3 12 (by decide) (by decide) _ c3 ?_
    generalize hC : stepC (coef x) (coef y) 3 3 _ = C at *
    have e0 : C 0 = x.c0 * y.c0 + 2 * x.c1 * y.c1 + 3 * x.c2 * y.c2 + 6 * x.c3 * y.c3 := by
      have : C 0 = 0 + 1 * (x.c0 * y.c0) + 2 * (x.c1 * y.c1) + 3 * (x.c2 * y.c2) + 6 * (x.c3 * y.c3) := by rw [← hC]; rfl
      rw [this]; grind
    have e1 : C 1 = x.c0 * y.c1 + x.c1 * y.c0 + 3 * x.c2 * y.c3 + 3 * x.c3 * y.c2 := by
      have : C 1 = 0 + 1 * (x.c0 * y.c1) + 1 * (x.c1 * y.c0) + 3 * (x.c2 * y.c3) + 3 * (x.c3 * y.c2) := by rw [← hC]; rfl
      rw [this]; grind
    have e2 : C 2 = x.c0 * y.c2 + x.c2 * y.c0 + 2 * x.c1 * y.c3 + 2 * x.c3 * y.c1 := by
      have : C 2 = 0 + 1 * (x.c0 * y.c2) + 2 * (x.c1 * y.c3) + 1 * (x.c2 * y.c0) + 2 * (x.c3 * y.c1) := by rw [← hC]; rfl
      rw [this]; grind
    have e3 : C 3 = x.c0 * y.c3 + x.c3 * y.c0 + x.c1 * y.c2 + x.c2 * y.c1 := by
      have : C 3 = 0 + 1 * (x.c0 * y.c3) + 1 * (x.c1 * y.c2) + 1 * (x.c2 * y.c1) + 1 * (x.c3 * y.c0) := by rw [← hC]; rfl
      rw [this]; grind
    have hw : 256 ^ (K.sz x + K.sz y + 1) = 256 * 256 ^ (K.sz x + K.sz y) := by rw [Nat.pow_succ, Nat.mul_comm]
    have hpp : 0 < 256 ^ (K.sz x + K.sz y) := Nat.pow_pos (by decide)
    have sm : ∀ k, SmlZ (C k) := fun k => Sml.of_lt (k := K.sz x + K.sz y + 1) (by have := c4 k; omega) (by omega)
    have hdd : (x.d * y.d).natAbs < 256 ^ (K.sz x + K.sz y) := by rw [Int.natAbs_mul]; exact K.mul_lt_pow hd hd'
    have smd : SmlZ (x.d * y.d) := Sml.of_lt hdd (by omega)
    have key : K.of (C 0) (C 1) (C 2) (C 3) (x.d * y.d) = x * y := by rw [e0, e1, e2, e3]; rfl
    refine okR (prod_z (coef x) (coef y) C x.d y.d) (.cons (Mul_spec _ _ (SmlZ.sz (x := x) (by omega)).2.2.2.2 (SmlZ.sz (x := y) (by omega)).2.2.2.2 (by rw [← Int.natAbs_mul]; exact smd)) (.cons (low_spec _ _ _ _ _ (sm 0) (sm 1) (sm 2) (sm 3) smd (Int.mul_ne_zero x.d_ne y.d_ne)) (.cons (Nat.le_refl _) .nil))) ?_
    rw [key]; rfl
  exact main
end Go.Fw
open Go
namespace Go.Fw
set_option maxRecDepth 100000
/-- A bound that leaves room for whatever is done with numbers. -/
abbrev Smk (x : K) : Prop := K.sz x < 1073741824
theorem FValid_K (x : K) (h : Smk x) : PCall P 154 [numC x] (.lit (.bool true)) := by
  obtain ⟨h0, h1, h2, h3, h4⟩ := SmlZ.sz h
  refine (FValid_p1 _ _ _ _ _ (by rw [Int.sign_eq_one_of_pos x.pos]; rfl) h0 h1 h2 h3 h4 (by decide)).eq ?_
  rw [x.cop]; rfl
theorem FConj1_K (x : K) : PCall P 211 [numC x, ci64 1] (numC (K.conj1 x)) := FConj1_p1 _ _ _ _ _
theorem FConj2_K (x : K) : PCall P 211 [numC x, ci64 2] (numC (K.conj2 x)) := FConj2_p1 _ _ _ _ _
end Go.Fw
namespace Go.Fw
theorem low_inv (z e : Int) (hz : SmlZ z) (he : SmlZ e) (h : e ≠ 0) : PCall P 204 [.agg [.lit (.bool (decide (z < 0))), .lit (.string (bytesOf z.natAbs)), .lit (.bool false), .lit (.string ⟨#[]⟩), .lit (.bool false), .lit (.string ⟨#[]⟩), .lit (.bool false), .lit (.string ⟨#[]⟩)], intC e] (numC (K.of z 0 0 0 e)) := by
  have h0 : SmlZ 0 := Sml.of_lt (k := 1) (by decide) (by decide)
  exact low_spec z 0 0 0 e hz h0 h0 h0 he h
end Go.Fw
