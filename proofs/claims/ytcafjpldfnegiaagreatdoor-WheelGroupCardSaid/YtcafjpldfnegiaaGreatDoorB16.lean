/- A part of the proof that the law returns true for every input: an executor for the model's code, and what functions of the program compute. -/
import Derived.Test.YtcafjpldfnegiaaGreatDoorB03
import Derived.Test.YtcafjpldfnegiaaGreatDoorB11
import Derived.Test.YtcafjpldfnegiaaGreatDoorB15
import Derived.Laws.Strings
import Derived.KernelRfl
set_option maxRecDepth 10000
namespace Go.Fw
theorem pow32_pos (n : Nat) : 0 < B32 ^ n := Nat.pow_pos (by decide)
theorem digN_put {b : Nat} (hb : 0 < b) (m n j x : Nat) (hj : j < m) (hx : x < b) : (digN b m n).set j x = digN b m (n - n / b ^ j % b * b ^ j + x * b ^ j) := by
 have hp : 0 < b ^ j := Nat.pow_pos hb
 have hle : n / b ^ j % b * b ^ j ≤ n := Nat.le_trans (Nat.mul_le_mul_right _ (Nat.mod_le _ _)) (Nat.div_mul_le_self _ _)
 have key : (digN b m n) = (digN b m (n - n / b ^ j % b * b ^ j)).set j (n / b ^ j % b) := by
  have h0 : (n - n / b ^ j % b * b ^ j) / b ^ j % b = 0 := by
   have e : n - n / b ^ j % b * b ^ j = n % b ^ j + b * (n / b ^ j / b) * b ^ j := by
    have h1 := Nat.mod_add_div n (b ^ j)
    have h2 := Nat.mod_add_div (n / b ^ j) b
    have h3 : b ^ j * (n / b ^ j) = (n / b ^ j % b) * b ^ j + b * (n / b ^ j / b) * b ^ j := by rw [← Nat.add_mul, h2, Nat.mul_comm]
    omega
   rw [e, Nat.add_mul_div_right _ _ hp, Nat.div_eq_of_lt (Nat.mod_lt _ hp), Nat.zero_add, Nat.mul_mod_right]
  have := digN_set hb m (n - n / b ^ j % b * b ^ j) j (n / b ^ j % b) hj (by rw [h0, Nat.zero_add]; exact Nat.mod_lt _ hb)
  rw [h0, Nat.zero_add] at this
  rw [this]
  congr 1; omega
 have h0 : (n - n / b ^ j % b * b ^ j) / b ^ j % b = 0 := by
  have e : n - n / b ^ j % b * b ^ j = n % b ^ j + b * (n / b ^ j / b) * b ^ j := by
   have h1 := Nat.mod_add_div n (b ^ j)
   have h2 := Nat.mod_add_div (n / b ^ j) b
   have h3 : b ^ j * (n / b ^ j) = (n / b ^ j % b) * b ^ j + b * (n / b ^ j / b) * b ^ j := by rw [← Nat.add_mul, h2, Nat.mul_comm]
   omega
  rw [e, Nat.add_mul_div_right _ _ hp, Nat.div_eq_of_lt (Nat.mod_lt _ hp), Nat.zero_add, Nat.mul_mod_right]
 have hs := digN_set hb m (n - n / b ^ j % b * b ^ j) j x hj (by rw [h0, Nat.zero_add]; exact hx)
 rw [h0, Nat.zero_add] at hs
 rw [key, List.set_set, hs]
structure Guess (U V v1 v2 top u2 p : Nat) : Prop where
 hp : 0 < p
 hU : ∃ ul, ul < p ∧ U = (top * B32 + u2) * p + ul
 hV : ∃ vl, vl < p ∧ V = (v1 * B32 + v2) * p + vl
 hv1 : 2147483648 ≤ v1
 hv1' : v1 < B32
 hv2 : v2 < B32
 hu2 : u2 < B32
 hlt : U < V * B32
namespace Guess
variable {U V v1 v2 top u2 p : Nat} (g : Guess U V v1 v2 top u2 p)
include g
theorem vpos : 0 < V := by
 obtain ⟨vl, _, e⟩ := g.hV
 have h1 := g.hv1
 have hp := g.hp
 have : 0 < (v1 * B32 + v2) * p := Nat.mul_pos (by simp only [B32]; omega) hp
 omega
theorem top_le : top ≤ v1 * B32 + (B32 - 1) := by
 obtain ⟨ul, hul, eU⟩ := g.hU
 obtain ⟨vl, hvl, eV⟩ := g.hV
 have hlt := g.hlt
 have hp := g.hp
 have hv2 := g.hv2
 have h1 : top * B32 * p ≤ U := by rw [eU, Nat.add_mul]; omega
 have h2 : V < (v1 + 1) * B32 * p := by
  rw [eV]
  calc (v1 * B32 + v2) * p + vl < (v1 * B32 + v2) * p + p := by omega
   _ = (v1 * B32 + v2 + 1) * p := by rw [Nat.add_mul _ 1, Nat.one_mul]
   _ ≤ (v1 + 1) * B32 * p := Nat.mul_le_mul_right _ (by rw [Nat.add_mul]; omega)
 have h3 : top * (B32 * p) < (v1 + 1) * B32 * (B32 * p) := by
  calc top * (B32 * p) = top * B32 * p := (Nat.mul_assoc _ _ _).symm
   _ ≤ U := h1
   _ < V * B32 := hlt
   _ ≤ (v1 + 1) * B32 * p * B32 := Nat.mul_le_mul_right _ (by omega)
   _ = (v1 + 1) * B32 * (B32 * p) := by rw [Nat.mul_assoc ((v1+1)*B32), Nat.mul_comm p]
 have h4 := Nat.lt_of_mul_lt_mul_right h3
 rw [Nat.add_mul] at h4
 simp only [B32] at *; omega
theorem quot_lt : U / V < B32 := by rw [Nat.div_lt_iff_lt_mul g.vpos, Nat.mul_comm]; exact g.hlt
theorem quot_le : U / V * (v1 * B32 + v2) ≤ top * B32 + u2 := by
 obtain ⟨ul, hul, eU⟩ := g.hU
 obtain ⟨vl, hvl, eV⟩ := g.hV
 have h1 : U / V * V ≤ U := Nat.div_mul_le_self _ _
 have h2 : U / V * (v1 * B32 + v2) * p < (top * B32 + u2 + 1) * p := by
  calc U / V * (v1 * B32 + v2) * p = U / V * ((v1 * B32 + v2) * p) := Nat.mul_assoc _ _ _
   _ ≤ U / V * V := Nat.mul_le_mul_left _ (by omega)
   _ ≤ U := h1
   _ < (top * B32 + u2) * p + p := by omega
   _ = (top * B32 + u2 + 1) * p := by rw [Nat.add_mul _ 1, Nat.one_mul]
 have := Nat.lt_of_mul_lt_mul_right h2
 exact Nat.lt_succ_iff.1 this
theorem le_succ {q : Nat} (hq : q < B32) (h : q * (v1 * B32 + v2) ≤ top * B32 + u2) : q ≤ U / V + 1 := by
 obtain ⟨ul, hul, eU⟩ := g.hU
 obtain ⟨vl, hvl, eV⟩ := g.hV
 have hv1 := g.hv1
 have hqp : q * p ≤ V := by
  calc q * p ≤ (v1 * B32 + v2) * p := Nat.mul_le_mul_right _ (by simp only [B32] at *; omega)
   _ ≤ V := by omega
 have h1 : q * V ≤ U + V := by
  calc q * V ≤ q * ((v1 * B32 + v2) * p + p) := Nat.mul_le_mul_left _ (by omega)
   _ = q * (v1 * B32 + v2) * p + q * p := by rw [Nat.mul_add, Nat.mul_assoc]
   _ ≤ (top * B32 + u2) * p + V := Nat.add_le_add (Nat.mul_le_mul_right _ h) hqp
   _ ≤ U + V := by omega
 cases q with
 | zero => exact Nat.zero_le _
 | succ q =>
  have h2 : q * V ≤ U := by rw [Nat.succ_mul] at h1; omega
  exact Nat.succ_le_succ ((Nat.le_div_iff_mul_le g.vpos).2 h2)
end Guess
structure Corr (U V v1 v2 top u2 q r : Nat) : Prop where
 eq : q * v1 + r = top
 le : U / V ≤ q
 up : q ≤ B32 + 1
 rest : r < B32
namespace Corr
variable {U V v1 v2 top u2 p q r : Nat}
theorem start (g : Guess U V v1 v2 top u2 p) : Corr U V v1 v2 top u2 (top / v1) (top % v1) := by
 have h1 := g.hv1
 have ht := g.top_le
 have hle : U / V ≤ top / v1 := by
  rw [Nat.le_div_iff_mul_le (by omega)]
  have := g.quot_le
  have h2 : U / V * v1 * B32 < (top + 1) * B32 := by
   calc U / V * v1 * B32 = U / V * (v1 * B32) := Nat.mul_assoc _ _ _
    _ ≤ U / V * (v1 * B32 + v2) := Nat.mul_le_mul_left _ (by omega)
    _ ≤ top * B32 + u2 := this
    _ < (top + 1) * B32 := by rw [Nat.add_mul]; have := g.hu2; omega
  have := Nat.lt_of_mul_lt_mul_right h2
  exact Nat.lt_succ_iff.1 this
 refine ⟨?_, hle, ?_, ?_⟩
 · rw [Nat.mul_comm]; exact Nat.div_add_mod _ _
 · rw [← Nat.lt_succ_iff, Nat.div_lt_iff_lt_mul (by omega)]
   simp only [B32] at *; omega
 · have := Nat.mod_lt top (by omega : 0 < v1)
   have := g.hv1'
   omega
theorem done (g : Guess U V v1 v2 top u2 p) (c : Corr U V v1 v2 top u2 q r) (h1 : q < B32) (h2 : q * v2 ≤ r * B32 + u2) : q = U / V ∨ q = U / V + 1 := by
 have h3 : q * (v1 * B32 + v2) ≤ top * B32 + u2 := by
  have e1 : top * B32 = q * v1 * B32 + r * B32 := by rw [← c.eq, Nat.add_mul]
  rw [e1, Nat.mul_add, ← Nat.mul_assoc]; omega
 have k1 := g.le_succ h1 h3
 have k2 := c.le
 generalize U / V = Q at *
 omega
theorem pred_le (g : Guess U V v1 v2 top u2 p) (c : Corr U V v1 v2 top u2 q r) (h : B32 ≤ q ∨ r * B32 + u2 < q * v2) : U / V < q := by
 rcases h with h | h
 · exact Nat.lt_of_lt_of_le g.quot_lt h
 · have hq := g.quot_le
   have h3 : top * B32 + u2 < q * (v1 * B32 + v2) := by
    have e1 : top * B32 = q * v1 * B32 + r * B32 := by rw [← c.eq, Nat.add_mul]
    rw [e1, Nat.mul_add, ← Nat.mul_assoc]
    rw [Nat.add_assoc]
    exact Nat.add_lt_add_left h _
   have h4 : ∀ k : Nat, U / V * k ≤ top * B32 + u2 → top * B32 + u2 < q * k → U / V < q := fun k a b => Nat.lt_of_mul_lt_mul_right (Nat.lt_of_le_of_lt a b)
   exact h4 _ hq h3
theorem step (g : Guess U V v1 v2 top u2 p) (c : Corr U V v1 v2 top u2 q r) (h : B32 ≤ q ∨ r * B32 + u2 < q * v2) (hr : r + v1 < B32) : Corr U V v1 v2 top u2 (q - 1) (r + v1) := by
 have hq := c.pred_le g h
 have e := c.eq
 have up := c.up
 refine ⟨?_, Nat.le_sub_one_of_lt hq, by omega, hr⟩
 have hq1 : 1 ≤ q := Nat.lt_of_le_of_lt (Nat.zero_le _) hq
 obtain ⟨q', rfl⟩ : ∃ q', q = q' + 1 := ⟨q - 1, by omega⟩
 rw [Nat.add_mul, Nat.one_mul] at e
 simp only [Nat.add_sub_cancel]
 omega
theorem last (g : Guess U V v1 v2 top u2 p) (c : Corr U V v1 v2 top u2 q r) (h : B32 ≤ q ∨ r * B32 + u2 < q * v2) (hr : B32 ≤ r + v1) : q - 1 < B32 ∧ (q - 1 = U / V ∨ q - 1 = U / V + 1) := by
 have hq := c.pred_le g h
 have e := c.eq
 have ht := g.top_le
 have hu := c.up
 have hv2 := g.hv2
 have hlt : q ≤ B32 := by
  rcases Nat.lt_or_ge q (B32 + 1) with h | h
  · omega
  · have : q = B32 + 1 := by omega
    subst this
    rw [Nat.add_mul, Nat.one_mul, Nat.mul_comm B32] at e
    omega
 have hls : ∀ q, q < B32 → q * (v1 * B32 + v2) ≤ top * B32 + u2 → q ≤ U / V + 1 := fun q a b => g.le_succ a b
 clear g c
 generalize U / V = Q at *
 obtain ⟨q', rfl⟩ : ∃ q', q = q' + 1 := ⟨q - 1, by omega⟩
 refine ⟨by omega, ?_⟩
 simp only [Nat.add_sub_cancel]
 have hq' : q' < B32 := by omega
 have h2 : q' * v2 ≤ (r + v1) * B32 + u2 := by
  calc q' * v2 ≤ B32 * B32 := Nat.mul_le_mul (by omega) (by omega)
   _ ≤ (r + v1) * B32 := Nat.mul_le_mul_right _ hr
   _ ≤ _ := Nat.le_add_right _ _
 have h3 : q' * (v1 * B32 + v2) ≤ top * B32 + u2 := by
  rw [Nat.add_mul, Nat.one_mul] at e
  rw [← e, Nat.mul_add, ← Nat.mul_assoc]
  have : (q' * v1 + v1 + r) * B32 = q' * v1 * B32 + (r + v1) * B32 := by
   rw [← Nat.add_mul]; congr 1; omega
  omega
 have := hls q' hq' h3
 omega
end Corr
theorem sub_step (W Wi q vi x P Pj c b d s c2 b2 new : Nat) (hinv : Wi + q * vi * Pj = W + (c + b) * P)
    (hP : ∃ Pi, P = Pj * Pi) (hs : c + q * x = s + B32 * c2) (hn : new + s + b = d + b2 * B32) (hd : d * P ≤ Wi) (Pi : Nat) (hPi : P = Pj * Pi) :
    (Wi - d * P + new * P) + q * (vi + Pi * x) * Pj = W + (c2 + b2) * (P * B32) := by
 have e1 : q * (vi + Pi * x) * Pj = q * vi * Pj + q * x * P := by
  rw [Nat.mul_add, Nat.add_mul, hPi]
  congr 1
  rw [← Nat.mul_assoc q, Nat.mul_assoc _ _ Pj, Nat.mul_assoc q Pi, Nat.mul_comm Pi (x * Pj), Nat.mul_assoc x, ← Nat.mul_assoc q]
 have e2 : (c2 + b2) * (P * B32) = B32 * c2 * P + b2 * B32 * P := by
  rw [Nat.add_mul]; congr 1 <;> (rw [Nat.mul_comm P, ← Nat.mul_assoc]; try rw [Nat.mul_comm c2])
 have e3 : (c + q * x) * P = (s + B32 * c2) * P := by rw [hs]
 have e4 : (new + s + b) * P = (d + b2 * B32) * P := by rw [hn]
 rw [e1, e2]
 simp only [Nat.add_mul] at *
 omega
end Go.Fw
set_option maxRecDepth 10000
open Go.Fw
namespace Go.Fw.R24
structure Guess (U V v1 v2 top u2 p : Nat) : Prop where
 hp : 0 < p
 hU : ∃ ul, ul < p ∧ U = (top * B24 + u2) * p + ul
 hV : ∃ vl, vl < p ∧ V = (v1 * B24 + v2) * p + vl
 hv1 : 8388608 ≤ v1
 hv1' : v1 < B24
 hv2 : v2 < B24
 hu2 : u2 < B24
 hlt : U < V * B24
namespace Guess
variable {U V v1 v2 top u2 p : Nat} (g : Guess U V v1 v2 top u2 p)
include g
theorem vpos : 0 < V := by
 obtain ⟨vl, _, e⟩ := g.hV
 have h1 := g.hv1
 have hp := g.hp
 have : 0 < (v1 * B24 + v2) * p := Nat.mul_pos (by simp only [B24]; omega) hp
 omega
theorem top_le : top ≤ v1 * B24 + (B24 - 1) := by
 obtain ⟨ul, hul, eU⟩ := g.hU
 obtain ⟨vl, hvl, eV⟩ := g.hV
 have hlt := g.hlt
 have hp := g.hp
 have hv2 := g.hv2
 have h1 : top * B24 * p ≤ U := by rw [eU, Nat.add_mul]; omega
 have h2 : V < (v1 + 1) * B24 * p := by
  rw [eV]
  calc (v1 * B24 + v2) * p + vl < (v1 * B24 + v2) * p + p := by omega
   _ = (v1 * B24 + v2 + 1) * p := by rw [Nat.add_mul _ 1, Nat.one_mul]
   _ ≤ (v1 + 1) * B24 * p := Nat.mul_le_mul_right _ (by rw [Nat.add_mul]; omega)
 have h3 : top * (B24 * p) < (v1 + 1) * B24 * (B24 * p) := by
  calc top * (B24 * p) = top * B24 * p := (Nat.mul_assoc _ _ _).symm
   _ ≤ U := h1
   _ < V * B24 := hlt
   _ ≤ (v1 + 1) * B24 * p * B24 := Nat.mul_le_mul_right _ (by omega)
   _ = (v1 + 1) * B24 * (B24 * p) := by rw [Nat.mul_assoc ((v1+1)*B24), Nat.mul_comm p]
 have h4 := Nat.lt_of_mul_lt_mul_right h3
 rw [Nat.add_mul] at h4
 simp only [B24] at *; omega
theorem quot_lt : U / V < B24 := by rw [Nat.div_lt_iff_lt_mul g.vpos, Nat.mul_comm]; exact g.hlt
theorem quot_le : U / V * (v1 * B24 + v2) ≤ top * B24 + u2 := by
 obtain ⟨ul, hul, eU⟩ := g.hU
 obtain ⟨vl, hvl, eV⟩ := g.hV
 have h1 : U / V * V ≤ U := Nat.div_mul_le_self _ _
 have h2 : U / V * (v1 * B24 + v2) * p < (top * B24 + u2 + 1) * p := by
  calc U / V * (v1 * B24 + v2) * p = U / V * ((v1 * B24 + v2) * p) := Nat.mul_assoc _ _ _
   _ ≤ U / V * V := Nat.mul_le_mul_left _ (by omega)
   _ ≤ U := h1
   _ < (top * B24 + u2) * p + p := by omega
   _ = (top * B24 + u2 + 1) * p := by rw [Nat.add_mul _ 1, Nat.one_mul]
 have := Nat.lt_of_mul_lt_mul_right h2
 exact Nat.lt_succ_iff.1 this
theorem le_succ {q : Nat} (hq : q < B24) (h : q * (v1 * B24 + v2) ≤ top * B24 + u2) : q ≤ U / V + 1 := by
 obtain ⟨ul, hul, eU⟩ := g.hU
 obtain ⟨vl, hvl, eV⟩ := g.hV
 have hv1 := g.hv1
 have hqp : q * p ≤ V := by
  calc q * p ≤ (v1 * B24 + v2) * p := Nat.mul_le_mul_right _ (by simp only [B24] at *; omega)
   _ ≤ V := by omega
 have h1 : q * V ≤ U + V := by
  calc q * V ≤ q * ((v1 * B24 + v2) * p + p) := Nat.mul_le_mul_left _ (by omega)
   _ = q * (v1 * B24 + v2) * p + q * p := by rw [Nat.mul_add, Nat.mul_assoc]
   _ ≤ (top * B24 + u2) * p + V := Nat.add_le_add (Nat.mul_le_mul_right _ h) hqp
   _ ≤ U + V := by omega
 cases q with
 | zero => exact Nat.zero_le _
 | succ q =>
  have h2 : q * V ≤ U := by rw [Nat.succ_mul] at h1; omega
  exact Nat.succ_le_succ ((Nat.le_div_iff_mul_le g.vpos).2 h2)
end Guess
structure Corr (U V v1 v2 top u2 q : Nat) : Prop where
 mul : q * v1 ≤ top
 le : U / V ≤ q
 lt : q < B24
namespace Corr
variable {U V v1 v2 top u2 p q : Nat}
theorem quot_top (g : Guess U V v1 v2 top u2 p) : U / V * v1 ≤ top := by
 have := g.quot_le
 have h2 : U / V * v1 * B24 < (top + 1) * B24 := by
  calc U / V * v1 * B24 = U / V * (v1 * B24) := Nat.mul_assoc _ _ _
   _ ≤ U / V * (v1 * B24 + v2) := Nat.mul_le_mul_left _ (by omega)
   _ ≤ top * B24 + u2 := this
   _ < (top + 1) * B24 := by rw [Nat.add_mul]; have := g.hu2; omega
 have := Nat.lt_of_mul_lt_mul_right h2
 exact Nat.lt_succ_iff.1 this
theorem start (g : Guess U V v1 v2 top u2 p) : Corr U V v1 v2 top u2 (min (top / v1) (B24 - 1)) := by
 have h1 := g.hv1
 have h2 := g.quot_lt
 refine ⟨?_, ?_, ?_⟩
 · exact Nat.le_trans (Nat.mul_le_mul_right _ (Nat.min_le_left ..)) (Nat.div_mul_le_self ..)
 · refine Nat.le_min.2 ⟨?_, ?_⟩
   · rw [Nat.le_div_iff_mul_le (by omega)]; exact quot_top g
   · exact Nat.le_sub_one_of_lt h2
 · exact Nat.lt_of_le_of_lt (Nat.min_le_right ..) (by decide)
theorem lin1 {i b e a d : Nat} (h : i + b = e + a) (k : b + d < a) : e + d < i := by omega
theorem lin2 {i b e a d : Nat} (h : i + b = e + a) (k : a ≤ b + d) : i ≤ e + d := by omega
theorem split' (b q v1 v2 top : Nat) (h : q * v1 ≤ top) : q * (v1 * b + v2) + (top - q * v1) * b = top * b + q * v2 := by
 obtain ⟨r, rfl⟩ : ∃ r, top = q * v1 + r := ⟨top - q * v1, by omega⟩
 rw [Nat.add_sub_cancel_left, Nat.mul_add, ← Nat.mul_assoc, Nat.add_mul (q * v1)]
 omega
theorem split (c : Corr U V v1 v2 top u2 q) : q * (v1 * B24 + v2) + (top - q * v1) * B24 = top * B24 + q * v2 := split' B24 q v1 v2 top c.mul
theorem done (g : Guess U V v1 v2 top u2 p) (c : Corr U V v1 v2 top u2 q) (h : q * v2 ≤ (top - q * v1) * B24 + u2 ∨ B24 ≤ top - q * v1) : q = U / V ∨ q = U / V + 1 := by
 have h2 : q * v2 ≤ (top - q * v1) * B24 + u2 := by
  rcases h with h | h
  · exact h
  · calc q * v2 ≤ B24 * B24 := Nat.mul_le_mul (Nat.le_of_lt c.lt) (Nat.le_of_lt g.hv2)
      _ ≤ (top - q * v1) * B24 := Nat.mul_le_mul_right _ h
      _ ≤ _ := Nat.le_add_right ..
 have h3 : q * (v1 * B24 + v2) ≤ top * B24 + u2 := by
  exact lin2 c.split h2
 have k1 := g.le_succ c.lt h3
 have k2 := c.le
 generalize U / V = Q at *
 omega
theorem step (g : Guess U V v1 v2 top u2 p) (c : Corr U V v1 v2 top u2 q) (h : (top - q * v1) * B24 + u2 < q * v2) : 0 < q ∧ Corr U V v1 v2 top u2 (q - 1) := by
 have hq := g.quot_le
 have h3 : top * B24 + u2 < q * (v1 * B24 + v2) := lin1 c.split h
 have h4 : U / V < q := Nat.lt_of_mul_lt_mul_right (Nat.lt_of_le_of_lt hq h3)
 have lt := c.lt
 exact ⟨Nat.lt_of_le_of_lt (Nat.zero_le _) h4, Nat.le_trans (Nat.mul_le_mul_right _ (Nat.sub_le ..)) c.mul, Nat.le_sub_one_of_lt h4, Nat.lt_of_le_of_lt (Nat.sub_le ..) lt⟩
end Corr
end Go.Fw.R24
open Go
namespace Go.Fw
set_option maxRecDepth 10000
theorem set_getD (xs : List Int) (k i : Nat) (d : Int) (h : k < xs.length) : (xs.set k d).getD i 0 = if i = k then d else xs.getD i 0 := by
 simp only [List.getD_eq_getElem?_getD, List.getElem?_set, h, if_true]
 by_cases hi : k = i
 · rw [if_pos hi, if_pos hi.symm]; rfl
 · rw [if_neg hi, if_neg (fun e => hi e.symm)]
end Go.Fw
open Go
namespace Go.Fw
set_option maxRecDepth 10000
def Low (p : Nat) (zs : List Int) : Prop := ∀ k, k < p → 0 ≤ zs.getD k 0 ∧ zs.getD k 0 < 16777216
theorem Low.set {p : Nat} {zs : List Int} (h : Low p zs) {k : Nat} {d : Int} (hk : k < zs.length) (hd : 0 ≤ d ∧ d < 16777216) : Low p (zs.set k d) := by
 intro i hi
 rw [set_getD _ _ _ _ hk]
 split
 · exact hd
 · exact h i hi
end Go.Fw
namespace Go.Fw
def strOf (ls : List Nat) : ByteArray := ⟨(ls.reverse.map UInt8.ofNat).toArray⟩
def lows (s : ByteArray) : List Nat := (s.data.toList.map UInt8.toNat).reverse
def bytesOf (n : Nat) : ByteArray := strOf (dig 256 n)
def strVal (s : ByteArray) : Nat := val 256 (lows s)
theorem lows_dig (s : ByteArray) : Dig 256 (lows s) := by
 intro x hx
 simp only [lows, List.mem_reverse, List.mem_map] at hx
 obtain ⟨y, _, rfl⟩ := hx
 exact y.toNat_lt
theorem lows_length (s : ByteArray) : (lows s).length = s.size := by simp [lows]
theorem strOf_lows (s : ByteArray) : strOf (lows s) = s := by
 cases s with
 | mk d =>
  simp only [strOf, lows, List.reverse_reverse, List.map_map]
  congr
  have : (UInt8.ofNat ∘ UInt8.toNat) = id := by funext x; simp
  rw [this, List.map_id]
theorem lows_strOf {ls : List Nat} (h : Dig 256 ls) : lows (strOf ls) = ls := by
 simp only [lows, strOf]
 rw [List.map_map, ← List.map_reverse, List.reverse_reverse]
 conv => rhs; rw [← List.map_id ls]
 refine List.map_congr_left fun x hx => ?_
 have := h x hx
 simp only [Function.comp_apply, id, UInt8.toNat_ofNat']
 omega
theorem strOf_size (ls : List Nat) : (strOf ls).size = ls.length := by simp [strOf, ByteArray.size]
theorem bytes_eq {a b : ByteArray} (h : a.data.toList = b.data.toList) : a = b := by
 cases a; cases b; congr; exact Array.ext' h
theorem strOf_extract (ls : List Nat) (x : Nat) : (strOf (ls ++ [x])).extract 1 (ls.length + 1) = strOf ls := by
 apply bytes_eq
 simp only [strOf, ByteArray.data_extract, Array.toList_extract, List.reverse_append, List.reverse_cons, List.reverse_nil, List.nil_append, List.singleton_append, List.map_cons, List.extract_eq_take_drop, List.drop_succ_cons, List.drop_zero, Nat.add_sub_cancel]
 rw [List.take_of_length_le (by simp)]
theorem strOf_first (ls : List Nat) (x : Nat) : (strOf (ls ++ [x])).data.getD 0 0 = UInt8.ofNat x := by simp [strOf]
theorem toList_nil_iff (s : ByteArray) : (s.toList == []) = decide (s.size = 0) := by
 rw [ByteArray.toList_eq]
 have : s.size = s.data.toList.length := by simp
 rw [this]
 cases s.data.toList <;> simp
theorem strVal_strOf {ls : List Nat} (h : Dig 256 ls) : strVal (strOf ls) = val 256 ls := by rw [strVal, lows_strOf h]
theorem strVal_bytesOf (n : Nat) : strVal (bytesOf n) = n := by rw [bytesOf, strVal_strOf (dig_lt (by decide) n), val_dig (by decide)]
theorem bytesOf_size (n : Nat) : (bytesOf n).size = (dig 256 n).length := strOf_size _
theorem bytesOf_inj {m n : Nat} (h : bytesOf m = bytesOf n) : m = n := by rw [← strVal_bytesOf m, h, strVal_bytesOf]
theorem bytesOf_size_zero {n : Nat} : (bytesOf n).size = 0 ↔ n = 0 := by rw [bytesOf_size]; exact dig_length_eq_zero (by decide)
theorem strVal_lt (s : ByteArray) : strVal s < 256 ^ s.size := by rw [strVal, ← lows_length]; exact val_lt (by decide) _ (lows_dig s)
theorem tz_lows (s : ByteArray) : strOf (tz (lows s)) = bytesOf (strVal s) := by rw [tz_eq_dig (by decide) _ (lows_dig s)]; rfl
theorem lows_get (s : ByteArray) {i : Nat} (h : i < s.size) : (lows s).getD i 0 = (s.data.getD (s.size - 1 - i) 0).toNat := by
 have hs : s.size = s.data.size := rfl
 simp only [lows, List.getD_eq_getElem?_getD]
 rw [List.getElem?_reverse (by simp; omega)]
 simp only [List.length_map, Array.length_toList, List.getElem?_map, Array.getElem?_toList]
 rw [Array.getElem?_eq_getElem (by omega)]
 simp [Array.getD, show s.size - 1 - i < s.size by omega]
end Go.Fw
open Go IntKind
namespace Go.Fw
set_option maxRecDepth 100000
theorem Add32_p1 (x y z : Int) : PCall P 255 [.lit (.int .u32 x), .lit (.int .u32 y), .lit (.int .u32 z)] (.tup [.lit (.int .u32 (u32.wrap (u64.wrap (u64.wrap (u64.wrap x + u64.wrap y) + u64.wrap z)))), .lit (.int .u32 (u32.wrap ((u64.wrap (u64.wrap (u64.wrap x + u64.wrap y) + u64.wrap z)).fdiv 4294967296)))]) :=
 pcallT (.c (nn 32) .nil) (by kernel_rfl)
theorem Sub32_p1 (x y z : Int) : PCall P 257 [.lit (.int .u32 x), .lit (.int .u32 y), .lit (.int .u32 z)] (.tup [.lit (.int .u32 (u32.wrap (u32.wrap (x - y) - z))), .lit (.int .u32 ((bitsM BinOp.or u32 (bitsM BinOp.and u32 (bitsM BinOp.xor u32 (4294967295 : Int) x) y) (bitsM BinOp.and u32 (bitsM BinOp.xor u32 (4294967295 : Int) (bitsM BinOp.xor u32 x y)) (u32.wrap (u32.wrap (x - y) - z)))).fdiv 2147483648))]) :=
 pcallT (.c (nn 31) .nil) (by kernel_rfl)
theorem Div32_p1 (x y z : Int) (hz : (z != 0) = true) (hx : decide (z ≤ x) = false) (o3 o4 : u64.wrap z ≠ 0) : PCall P 269 [.lit (.int .u32 x), .lit (.int .u32 y), .lit (.int .u32 z)] (.tup [.lit (.int .u32 (u32.wrap (u64.wrap ((bitsM BinOp.or u64 (u64.wrap (u64.wrap x * 4294967296)) (u64.wrap y)).tdiv (u64.wrap z))))), .lit (.int .u32 (u32.wrap ((bitsM BinOp.or u64 (u64.wrap (u64.wrap x * 4294967296)) (u64.wrap y)).tmod (u64.wrap z))))]) :=
 pcallT (.b 4 hz (.b 9 hx (.c (nn 32) (.c o3 (.c o4 .nil))))) (by kernel_rfl)
theorem Mul32_p1 (x y : Int) : PCall P 267 [.lit (.int .u32 x), .lit (.int .u32 y)] (.tup [.lit (.int .u32 (u32.wrap ((u64.wrap (u64.wrap x * u64.wrap y)).fdiv 4294967296))), .lit (.int .u32 (u32.wrap (u64.wrap (u64.wrap x * u64.wrap y))))]) :=
 pcallT (.c (nn 32) .nil) (by kernel_rfl)
end Go.Fw
open Go
namespace Go.Fw
set_option maxRecDepth 100000
abbrev cu32 (n : Nat) : CV := .lit (.int .u32 (n : Int))
abbrev ci64 (n : Int) : CV := .lit (.int .i64 n)
theorem tup_int {k k' : IntKind} {a a' b b' : Int} (h : a = a') (h' : b = b') : CV.tup [.lit (.int k a), .lit (.int k' b)] = .tup [.lit (.int k a'), .lit (.int k' b')] := by rw [h, h']
theorem lit_int {k : IntKind} {a a' : Int} (h : a = a') : CV.lit (.int k a) = .lit (.int k a') := by rw [h]
theorem wr32 (n : Int) : IntKind.u32.wrap n = n % 4294967296 := IntKind.wrap_u32 n
theorem wr64 (n : Int) : IntKind.u64.wrap n = n % 18446744073709551616 := IntKind.wrap_u64 n
theorem wr8 (n : Int) : IntKind.u8.wrap n = n % 256 := IntKind.wrap_u8 n
theorem fdp (n : Int) {d : Int} (h : 0 ≤ d) : n.fdiv d = n / d := Int.fdiv_eq_ediv_of_nonneg n h
theorem ofInt_nat (k : Nat) (a : Nat) : BitVec.ofInt k (a : Int) = BitVec.ofNat k a := by
 apply BitVec.eq_of_toNat_eq
 simp
theorem bitsM_nat (op : BinOp) (k : IntKind) (hk : k.signed = false) (a b : Nat) (ha : a < 2 ^ k.bits) (hb : b < 2 ^ k.bits) (hop : op = .and ∨ op = .or ∨ op = .xor) :
    bitsM op k a b = ((match op with | .and => a &&& b | .or => a ||| b | _ => a ^^^ b : Nat) : Int) := by
 have hw : ∀ n : Nat, n < 2 ^ k.bits → k.wrap (n : Int) = n := by
  intro n hn
  unfold IntKind.wrap
  simp only [hk, Bool.false_and, Bool.false_eq_true, if_false]
  norm_cast
  rw [Nat.mod_eq_of_lt hn]
 unfold bitsM
 simp only [ofInt_nat]
 rcases hop with rfl | rfl | rfl
 · dsimp only
   rw [BitVec.toNat_and, BitVec.toNat_ofNat, BitVec.toNat_ofNat, Nat.mod_eq_of_lt ha, Nat.mod_eq_of_lt hb]
   exact hw _ (Nat.and_lt_two_pow _ hb)
 · dsimp only
   rw [BitVec.toNat_or, BitVec.toNat_ofNat, BitVec.toNat_ofNat, Nat.mod_eq_of_lt ha, Nat.mod_eq_of_lt hb]
   exact hw _ (Nat.or_lt_two_pow ha hb)
 · dsimp only
   rw [BitVec.toNat_xor, BitVec.toNat_ofNat, BitVec.toNat_ofNat, Nat.mod_eq_of_lt ha, Nat.mod_eq_of_lt hb]
   exact hw _ (Nat.xor_lt_two_pow ha hb)
theorem or_u32 {a b : Nat} (ha : a < 4294967296) (hb : b < 4294967296) : bitsM .or .u32 (a : Int) (b : Int) = ((a ||| b : Nat) : Int) := bitsM_nat .or .u32 rfl a b ha hb (by simp)
theorem and_u32 {a b : Nat} (ha : a < 4294967296) (hb : b < 4294967296) : bitsM .and .u32 (a : Int) (b : Int) = ((a &&& b : Nat) : Int) := bitsM_nat .and .u32 rfl a b ha hb (by simp)
theorem xor_u32 {a b : Nat} (ha : a < 4294967296) (hb : b < 4294967296) : bitsM .xor .u32 (a : Int) (b : Int) = ((a ^^^ b : Nat) : Int) := bitsM_nat .xor .u32 rfl a b ha hb (by simp)
theorem or_u64 {a b : Nat} (ha : a < 18446744073709551616) (hb : b < 18446744073709551616) : bitsM .or .u64 (a : Int) (b : Int) = ((a ||| b : Nat) : Int) := bitsM_nat .or .u64 rfl a b ha hb (by simp)
theorem or_shift {a b : Nat} (i : Nat) (hb : b < 2 ^ i) : a * 2 ^ i ||| b = a * 2 ^ i + b := by
 rw [← Nat.shiftLeft_eq, Nat.shiftLeft_add_eq_or_of_lt hb]
theorem add32_spec (x y c : Nat) (hx : x < B32) (hy : y < B32) (hc : c ≤ 1) : PCall P 255 [cu32 x, cu32 y, cu32 c] (.tup [cu32 ((x + y + c) % B32), cu32 ((x + y + c) / B32)]) := by
 refine (Add32_p1 x y c).eq ?_
 simp only [wr32, wr64, fdp _ (by decide : (0 : Int) ≤ 4294967296), B32] at *
 exact tup_int (by omega) (by omega)
theorem mul32_spec (x y : Nat) (hx : x < B32) (hy : y < B32) : PCall P 267 [cu32 x, cu32 y] (.tup [cu32 (x * y / B32), cu32 (x * y % B32)]) := by
 refine (Mul32_p1 x y).eq ?_
 have h : x * y ≤ 4294967295 * 4294967295 := Nat.mul_le_mul (by simp only [B32] at hx; omega) (by simp only [B32] at hy; omega)
 simp only [wr32, wr64, fdp _ (by decide : (0 : Int) ≤ 4294967296), B32] at *
 have h1 : (x : Int) % 18446744073709551616 * ((y : Int) % 18446744073709551616) = ((x * y : Nat) : Int) := by
  rw [Int.emod_eq_of_lt (by omega) (by omega), Int.emod_eq_of_lt (by omega) (by omega)]; simp
 rw [h1]
 exact tup_int (by omega) (by omega)
theorem div32_spec (x y z : Nat) (hx : x < z) (hy : y < B32) (hz : z < B32) : PCall P 269 [cu32 x, cu32 y, cu32 z] (.tup [cu32 ((x * B32 + y) / z), cu32 ((x * B32 + y) % z)]) := by
 have h0 : 0 < z := by omega
 have hzw : IntKind.u64.wrap (z : Int) = z := by rw [wr64]; simp only [B32] at hz; omega
 have hne : (z : Int) ≠ 0 := by omega
 refine (Div32_p1 x y z (by simpa using hne) (by simp; omega) (by rw [hzw]; exact hne) (by rw [hzw]; exact hne)).eq ?_
 rw [hzw]
 simp only [B32] at *
 have h1 : IntKind.u64.wrap (IntKind.u64.wrap (x : Int) * 4294967296) = ((x * 2 ^ 32 : Nat) : Int) := by rw [wr64, wr64]; omega
 have h2 : IntKind.u64.wrap (y : Int) = (y : Nat) := by rw [wr64]; omega
 rw [h1, h2, or_u64 (by omega) (by omega), or_shift 32 (by omega), show (2 : Nat) ^ 32 = 4294967296 by decide, wr32, wr64, wr32, Int.tdiv_eq_ediv_of_nonneg (by omega), Int.tmod_eq_emod_of_nonneg (by omega)]
 have h3 : (x * 4294967296 + y) / z < 4294967296 := by
  rw [Nat.div_lt_iff_lt_mul h0]
  have : (x + 1) * 4294967296 ≤ z * 4294967296 := Nat.mul_le_mul_right _ hx
  rw [Nat.mul_comm 4294967296 z]; omega
 have h4 : (x * 4294967296 + y) % z < 4294967296 := by have := Nat.mod_lt (x * 4294967296 + y) h0; omega
 rw [show ((x * 4294967296 + y : Nat) : Int) / (z : Int) = (((x * 4294967296 + y) / z : Nat) : Int) from (Int.natCast_ediv _ _).symm,
  show ((x * 4294967296 + y : Nat) : Int) % (z : Int) = (((x * 4294967296 + y) % z : Nat) : Int) from (Int.natCast_emod _ _).symm]
 generalize (x * 4294967296 + y) / z = q at *
 generalize (x * 4294967296 + y) % z = r at *
 exact tup_int (by omega) (by omega)
theorem sub32_spec (x y c : Nat) (hx : x < B32) (hy : y < B32) (hc : c ≤ 1) : PCall P 257 [cu32 x, cu32 y, cu32 c] (.tup [cu32 ((x + 2 * B32 - y - c) % B32), cu32 (if x < y + c then 1 else 0)]) := by
 refine (Sub32_p1 x y c).eq ?_
 simp only [B32] at *
 have hd : IntKind.u32.wrap (IntKind.u32.wrap ((x : Int) - y) - c) = ((x + 2 * 4294967296 - y - c) % 4294967296 : Nat) := by rw [wr32, wr32]; omega
 rw [hd]
 have hd' : (x + 2 * 4294967296 - y - c) % 4294967296 < 4294967296 := Nat.mod_lt _ (by decide)
 generalize hdd : (x + 2 * 4294967296 - y - c) % 4294967296 = d at *
 have hm : (4294967295 : Int) = ((4294967295 : Nat) : Int) := rfl
 have hxy : x ^^^ y < 4294967296 := Nat.xor_lt_two_pow (n := 32) hx hy
 have hnx : 4294967295 ^^^ x < 4294967296 := Nat.xor_lt_two_pow (n := 32) (by decide) hx
 have hnxy : 4294967295 ^^^ (x ^^^ y) < 4294967296 := Nat.xor_lt_two_pow (n := 32) (by decide) hxy
 have ha1 : (4294967295 ^^^ x) &&& y < 4294967296 := Nat.and_lt_two_pow (n := 32) _ hy
 have ha2 : (4294967295 ^^^ (x ^^^ y)) &&& d < 4294967296 := Nat.and_lt_two_pow (n := 32) _ hd'
 rw [hm, xor_u32 (by decide) hx, and_u32 hnx hy, xor_u32 hx hy, xor_u32 (by decide) hxy, and_u32 hnxy hd', or_u32 ha1 ha2, fdp _ (by decide), show (2147483648 : Int) = ((2147483648 : Nat) : Int) from rfl, ← Int.natCast_ediv]
 have key : ((4294967295 ^^^ x) &&& y ||| (4294967295 ^^^ (x ^^^ y)) &&& d) / 2147483648 = if x < y + c then 1 else 0 := by
  rw [show (2147483648 : Nat) = 2 ^ 31 from rfl, ← Nat.shiftRight_eq_div_pow]
  simp only [Nat.shiftRight_or_distrib, Nat.shiftRight_and_distrib, Nat.shiftRight_xor_distrib]
  rw [show (4294967295 : Nat) >>> 31 = 1 from rfl]
  simp only [Nat.shiftRight_eq_div_pow]
  rw [show (2 : Nat) ^ 31 = 2147483648 from rfl]
  have e1 : x / 2147483648 = 0 ∨ x / 2147483648 = 1 := by omega
  have e2 : y / 2147483648 = 0 ∨ y / 2147483648 = 1 := by omega
  have e3 : d / 2147483648 = 0 ∨ d / 2147483648 = 1 := by omega
  rcases e1 with e1 | e1 <;> rcases e2 with e2 | e2 <;> rcases e3 with e3 | e3 <;> rw [e1, e2, e3]
  all_goals first
   | (rw [if_pos (by omega)]; rfl)
   | (rw [if_neg (by omega)]; rfl)
 rw [key]
end Go.Fw
open Go IntKind
namespace Go.Fw
set_option maxRecDepth 100000
theorem trimF_p1 (n : Nat) (xs : List Nat) {R : CV → Prop} (hR : Ok P 254 (loopHead P 254 0) ⟨mkTm 21 [(0, .cv (.lst n (u32s xs)))], []⟩ (.of R)) : PCallQ P 254 [.lst n (u32s xs)] R :=
 pcallST (keep := [0]) (σ := []) (.o 1 .stop .nil) (by kernel_rfl) rfl hR .nil
theorem trimL_p1 (n : Nat) (xs : List Nat) (h1 : decide ((n : Int) > 0) = true) (h2 : ((↑(xs.getD ((i64.wrap ((n : Int) - 1)).toNat * 1) 0) : Int) == 0) = true) (o1 : (0 : Int) ≤ i64.wrap ((n : Int) - 1) ∧ i64.wrap ((n : Int) - 1) < (n : Int)) (o2 : (u32s xs)[(i64.wrap ((n : Int) - 1)).toNat * 1]? = some (.lit (.int .u32 (↑(xs.getD ((i64.wrap ((n : Int) - 1)).toNat * 1) 0) : Int)))) (o5 : (0 : Int) ≤ 0 ∧ (0 : Int) ≤ i64.wrap ((n : Int) - 1) ∧ i64.wrap ((n : Int) - 1) ≤ (n : Int)) (o6 : (u32s xs).length = n * 1) {R : Goal} (hn : lentOk R.n [] = true) (hR : Ok P 254 (loopHead P 254 0) ⟨mkTm 21 [(0, .cv (.lst (i64.wrap ((n : Int) - 1) - 0).toNat (List.take ((i64.wrap ((n : Int) - 1) - 0).toNat * 1) (List.drop 0 (u32s xs)))))], []⟩ R) : Ok P 254 (loopHead P 254 0) ⟨.cv (.lst n (u32s xs)) :: unks 20, []⟩ R :=
 okST (keep := [0]) (σ := []) (.b 4 h1 (.c o1 (.l 10 o2 (.c (eqn 1) (.b 13 h2 (.c o5 (.c o6 (.o 20 .stop .nil)))))))) (by kernel_rfl) rfl hn hR .nil
theorem trimL_p2 (n : Nat) (xs : List Nat) (h1 : decide ((n : Int) > 0) = true) (h2 : ((↑(xs.getD ((i64.wrap ((n : Int) - 1)).toNat * 1) 0) : Int) == 0) = false) (o1 : (0 : Int) ≤ i64.wrap ((n : Int) - 1) ∧ i64.wrap ((n : Int) - 1) < (n : Int)) (o2 : (u32s xs)[(i64.wrap ((n : Int) - 1)).toNat * 1]? = some (.lit (.int .u32 (↑(xs.getD ((i64.wrap ((n : Int) - 1)).toNat * 1) 0) : Int)))) {R : Goal} (hR : R.c (.lst n (u32s xs))) : Ok P 254 (loopHead P 254 0) ⟨.cv (.lst n (u32s xs)) :: unks 20, []⟩ R :=
 okT (.b 4 h1 (.c o1 (.l 10 o2 (.c (eqn 1) (.b 13 h2 .nil))))) (by kernel_rfl) hR
theorem trimL_p3 (n : Nat) (xs : List Nat) (h1 : decide ((n : Int) > 0) = false) {R : Goal} (hR : R.c (.lst n (u32s xs))) : Ok P 254 (loopHead P 254 0) ⟨.cv (.lst n (u32s xs)) :: unks 20, []⟩ R :=
 okT (.b 4 h1 .nil) (by kernel_rfl) hR
end Go.Fw
open Go
namespace Go.Fw
set_option maxRecDepth 100000
theorem u32s_take (xs : List Nat) (k : Nat) : (u32s xs).take k = u32s (xs.take k) := by simp [u32s]
theorem trim_loop {R : Goal} (hn : lentOk R.n [] = true) : ∀ (k : Nat) (xs : List Nat), xs.length = k → k < 2 ^ 62 → R.c (.lst (tz xs).length (u32s (tz xs))) →
    Ok P 254 (loopHead P 254 0) ⟨.cv (.lst xs.length (u32s xs)) :: unks 20, []⟩ R := by
 intro k
 induction k with
 | zero =>
  intro xs hl _ hR
  have : xs = [] := List.length_eq_zero_iff.1 hl
  subst this
  exact trimL_p3 0 [] (by decide) hR
 | succ k ih =>
  intro xs hl hk hR
  have hw : IntKind.i64.wrap ((xs.length : Int) - 1) = (k : Int) := by rw [hl, w64 (by omega)]; omega
  have hne : xs ≠ [] := by intro e; subst e; simp at hl
  have hcon := eq_concat_of_pos hne
  rw [hl, Nat.add_sub_cancel] at hcon
  have hget : (u32s xs)[k]? = some (u32s_at xs k) := u32s_get (by omega)
  by_cases hx : xs.getD k 0 = 0
  · refine trimL_p1 xs.length xs (by simp; omega) (by rw [hw]; simpa using hx) (by rw [hw]; omega) (by rw [hw]; simpa [u32s_at] using hget) (by rw [hw]; omega) (by simp [u32s]) hn ?_
    rw [hw]
    have h1 : ((k : Int) - 0).toNat = k := by omega
    rw [h1, Nat.mul_one, List.drop_zero, u32s_take]
    have h2 : (xs.take k).length = k := by simp; omega
    have := ih (xs.take k) h2 (by omega) (by rw [hcon, hx, tz_concat_zero] at hR; exact hR)
    rw [h2] at this
    exact this
  · refine trimL_p2 xs.length xs (by simp; omega) (by rw [hw]; simpa using hx) (by rw [hw]; omega) (by rw [hw]; simpa [u32s_at] using hget) ?_
    rw [hcon, tz_concat hx, ← hcon] at hR
    exact hR
theorem trim_spec (n : Nat) (xs : List Nat) (hn : n = xs.length) (hd : Dig B32 xs) (hl : xs.length < 2 ^ 62) : PCall P 254 [.lst n (u32s xs)] (natC (val B32 xs)) := by
 subst hn
 refine trimF_p1 xs.length xs (trim_loop rfl _ xs rfl hl ?_)
 exact natC_eq hd
end Go.Fw
namespace Go.Fw
theorem trim1_spec (a : Int) (h0 : 0 ≤ a) (h1 : a < 4294967296) : PCall P 254 [.lst 1 [.lit (.int .u32 a)]] (natC a.toNat) := by
 have := trim_spec 1 [a.toNat] rfl (by intro x hx; simp only [List.mem_singleton] at hx; simp only [B32]; omega) (by simp)
 rw [show u32s [a.toNat] = [.lit (.int .u32 a)] by simp [u32s]; omega, show val B32 [a.toNat] = a.toNat by simp [val]] at this
 exact this
theorem trim2_spec (a b : Int) (h0 : 0 ≤ a) (h1 : a < 4294967296) (g0 : 0 ≤ b) (g1 : b < 4294967296) : PCall P 254 [.lst 2 [.lit (.int .u32 a), .lit (.int .u32 b)]] (natC (a + 4294967296 * b).toNat) := by
 have := trim_spec 2 [a.toNat, b.toNat] rfl (by intro x hx; simp only [List.mem_cons, List.not_mem_nil, or_false] at hx; simp only [B32]; omega) (by simp)
 rw [show u32s [a.toNat, b.toNat] = [.lit (.int .u32 a), .lit (.int .u32 b)] by simp [u32s]; omega, show val B32 [a.toNat, b.toNat] = (a + 4294967296 * b).toNat by simp only [val, B32]; omega] at this
 exact this
end Go.Fw
open Go IntKind
namespace Go.Fw
set_option maxRecDepth 100000
theorem tlbF_p1 (s : ByteArray) (c : Int) {R : CV → Prop} (hR : Ok P 271 (loopHead P 271 0) ⟨mkTm 17 [(0, .cv (.lit (.string s))), (1, .cv (.lit (.int .u8 c)))], []⟩ (.of R)) : PCallQ P 271 [.lit (.string s), .lit (.int .u8 c)] R :=
 pcallST (keep := [0, 1]) (σ := []) (.o 1 .stop .nil) (by kernel_rfl) rfl hR .nil
theorem tlbL_p1 (s : ByteArray) (c : Int) (h1 : decide ((↑s.size : Int) > 0) = true) (h2 : ((↑(s.data.getD 0 (OfNat.ofNat 0)).toNat : Int) == c) = true) (o1 : (0 : Int) ≤ 0 ∧ (0 : Int) < (↑s.size : Int)) (o3 : (0 : Int) ≤ 1 ∧ (1 : Int) ≤ (↑s.size : Int) ∧ (↑s.size : Int) ≤ (↑s.size : Int)) {R : Goal} (hn : lentOk R.n [] = true) (hR : Ok P 271 (loopHead P 271 0) ⟨mkTm 17 [(0, .cv (.lit (.string (s.extract 1 (↑s.size : Int).toNat)))), (1, .cv (.lit (.int .u8 c)))], []⟩ R) : Ok P 271 (loopHead P 271 0) ⟨.cv (.lit (.string s)) :: .cv (.lit (.int .u8 c)) :: unks 15, []⟩ R :=
 okST (keep := [0, 1]) (σ := []) (.b 4 h1 (.c o1 (.b 10 h2 (.c o3 (.o 14 .stop .nil))))) (by kernel_rfl) rfl hn hR .nil
theorem tlbL_p2 (s : ByteArray) (c : Int) (h1 : decide ((↑s.size : Int) > 0) = true) (h2 : ((↑(s.data.getD 0 (OfNat.ofNat 0)).toNat : Int) == c) = false) (o1 : (0 : Int) ≤ 0 ∧ (0 : Int) < (↑s.size : Int)) {R : Goal} (hR : R.c (.lit (.string s))) : Ok P 271 (loopHead P 271 0) ⟨.cv (.lit (.string s)) :: .cv (.lit (.int .u8 c)) :: unks 15, []⟩ R :=
 okT (.b 4 h1 (.c o1 (.b 10 h2 .nil))) (by kernel_rfl) hR
theorem tlbL_p3 (s : ByteArray) (c : Int) (h1 : decide ((↑s.size : Int) > 0) = false) {R : Goal} (hR : R.c (.lit (.string s))) : Ok P 271 (loopHead P 271 0) ⟨.cv (.lit (.string s)) :: .cv (.lit (.int .u8 c)) :: unks 15, []⟩ R :=
 okT (.b 4 h1 .nil) (by kernel_rfl) hR
end Go.Fw
open Go
namespace Go.Fw
set_option maxRecDepth 100000
abbrev cstr (s : ByteArray) : CV := .lit (.string s)
theorem tlb_loop {R : Goal} (hn : lentOk R.n [] = true) : ∀ (k : Nat) (ls : List Nat), ls.length = k → Dig 256 ls → R.c (cstr (strOf (tz ls))) →
    Ok P 271 (loopHead P 271 0) ⟨.cv (cstr (strOf ls)) :: .cv (.lit (.int .u8 0)) :: unks 15, []⟩ R := by
 intro k
 induction k with
 | zero =>
  intro ls hl _ hR
  have : ls = [] := List.length_eq_zero_iff.1 hl
  subst this
  exact tlbL_p3 _ 0 (by decide) hR
 | succ k ih =>
  intro ls hl hd hR
  have hne : ls ≠ [] := by intro e; subst e; simp at hl
  have hcon := eq_concat_of_pos hne
  rw [hl, Nat.add_sub_cancel] at hcon
  have hsz : (strOf ls).size = k + 1 := by rw [strOf_size, hl]
  have hx := hd.get (by decide) k
  have hd' := hd.take k
  have hlt : (ls.take k).length = k := by simp; omega
  generalize ls.take k = ms at *
  generalize ls.getD k 0 = x at *
  subst hcon
  have hfirst : ((strOf (ms ++ [x])).data.getD 0 0).toNat = x := by rw [strOf_first]; simp; omega
  by_cases h0 : x = 0
  · refine tlbL_p1 _ 0 (by rw [hsz]; simp) (by rw [show (OfNat.ofNat 0 : UInt8) = 0 from rfl, hfirst, h0]; rfl) (by omega) (by omega) hn ?_
    have := ih ms hlt hd' (by rw [h0, tz_concat_zero] at hR; exact hR)
    rw [hsz, show ((k + 1 : Nat) : Int).toNat = ms.length + 1 by omega, strOf_extract]
    exact this
  · refine tlbL_p2 _ 0 (by rw [hsz]; simp) (by rw [show (OfNat.ofNat 0 : UInt8) = 0 from rfl, hfirst]; simpa using h0) (by omega) ?_
    rw [tz_concat h0] at hR
    exact hR
theorem tlb_spec (s : ByteArray) : PCall P 271 [cstr s, .lit (.int .u8 0)] (cstr (bytesOf (strVal s))) := by
 refine tlbF_p1 s 0 ?_
 have := tlb_loop (R := .of (fun x => x = cstr (bytesOf (strVal s)))) rfl _ (lows s) rfl (lows_dig s) (by rw [tz_lows]; rfl)
 rw [strOf_lows] at this
 exact this
end Go.Fw
