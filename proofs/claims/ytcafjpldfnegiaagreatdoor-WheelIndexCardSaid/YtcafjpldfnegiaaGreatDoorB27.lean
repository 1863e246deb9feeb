/- A part of the proof that the law returns true for every input: an executor for the model's code, and what functions of the program compute. -/
import Derived.Test.YtcafjpldfnegiaaGreatDoorB09
import Derived.Test.YtcafjpldfnegiaaGreatDoorB14
import Derived.Test.YtcafjpldfnegiaaGreatDoorB20
import Derived.Test.YtcafjpldfnegiaaGreatDoorB24
import Derived.Test.YtcafjpldfnegiaaGreatDoorB26
import Derived.KernelRfl
open Go
namespace Go.Fw
set_option maxRecDepth 100000

theorem DMF_p1 (a : Int) (b : Int) (h1 : ((bytesOf b.natAbs).toList == []) = true) : PCall P (226 : FuncId) [intC a, intC b] (CV.tup [CV.agg [CV.lit (Value.bool false), CV.lit (Value.string { data := #[] })], CV.agg [CV.lit (Value.bool false), CV.lit (Value.string { data := #[] })], CV.lit (Value.int IntKind.i64 (10 : Int))]) :=
  pcallR (ors := [(6, Or.r (CV.lit (Value.bool true))), (10, Or.r (CV.lit (Value.bool true))), (19, Or.b true)]) (by kernel_rfl) (.cons (Go.Fw.Valid_int (a)) (.cons (Go.Fw.Valid_int (b)) (.cons h1 (.cons (show 2 ≤ 2 from (by decide)) (.cons (show 2 ≤ 2 from (by decide)) .nil)))))
theorem DMF_p2 (a : Int) (b : Int) (h1 : ((bytesOf b.natAbs).toList == []) = false) (h2 : (!(bytesOf (sgn (decide (a < (0 : Int))) (a.natAbs % b.natAbs)).natAbs).toList == []) = true) (h3 : (!decide (a < (0 : Int)) == decide (b < (0 : Int))) = true) (s22_0 : Sml a.natAbs) (s25_0 : Sml b.natAbs) (s26_0 : b.natAbs ≠ 0) (s26_1 : (dig 4294967296 a.natAbs).length < 2 ^ 38) (s26_2 : (dig 4294967296 b.natAbs).length < 2 ^ 38) (s38_0 : Sml (a.natAbs / b.natAbs)) (s42_0 : Sml (a.natAbs % b.natAbs)) (s57_0 : (-9223372036854775808 : Int) ≤ (1 : Int) ∧ (1 : Int) ≤ (9223372036854775807 : Int)) (s58_0 : SmlZ (sgn (!decide (a < (0 : Int)) == decide (b < (0 : Int))) (a.natAbs / b.natAbs))) (s58_1 : Sml ((sgn (!decide (a < (0 : Int)) == decide (b < (0 : Int))) (a.natAbs / b.natAbs)).natAbs + 1)) (s61_0 : SmlZ (sgn (decide (a < (0 : Int))) (a.natAbs % b.natAbs))) (s61_1 : SmlZ b) (s61_2 : Sml ((sgn (decide (a < (0 : Int))) (a.natAbs % b.natAbs)).natAbs + b.natAbs)) : PCall P (226 : FuncId) [intC a, intC b] (CV.tup [CV.agg [CV.lit (Value.bool (decide (sgn (!decide (a < (0 : Int)) == decide (b < (0 : Int))) (a.natAbs / b.natAbs) - (1 : Int) < (0 : Int)))), CV.lit (Value.string (bytesOf (sgn (!decide (a < (0 : Int)) == decide (b < (0 : Int))) (a.natAbs / b.natAbs) - (1 : Int)).natAbs))], CV.agg [CV.lit (Value.bool (decide (sgn (decide (a < (0 : Int))) (a.natAbs % b.natAbs) + b < (0 : Int)))), CV.lit (Value.string (bytesOf (sgn (decide (a < (0 : Int))) (a.natAbs % b.natAbs) + b).natAbs))], CV.lit (Value.int IntKind.i64 (0 : Int))]) :=
  pcallR (ors := [(6, Or.r (CV.lit (Value.bool true))), (10, Or.r (CV.lit (Value.bool true))), (19, Or.b false), (22, Or.r (CV.lst (dig 4294967296 a.natAbs).length (u32s (dig 4294967296 a.natAbs)))), (25, Or.r (CV.lst (dig 4294967296 b.natAbs).length (u32s (dig 4294967296 b.natAbs)))), (26, Or.r (CV.tup [CV.lst (dig 4294967296 (a.natAbs / b.natAbs)).length (u32s (dig 4294967296 (a.natAbs / b.natAbs))), CV.lst (dig 4294967296 (a.natAbs % b.natAbs)).length (u32s (dig 4294967296 (a.natAbs % b.natAbs)))])), (38, Or.r (CV.agg [CV.lit (Value.bool (decide (sgn (!decide (a < (0 : Int)) == decide (b < (0 : Int))) (a.natAbs / b.natAbs) < (0 : Int)))), CV.lit (Value.string (bytesOf (sgn (!decide (a < (0 : Int)) == decide (b < (0 : Int))) (a.natAbs / b.natAbs)).natAbs))])), (42, Or.r (CV.agg [CV.lit (Value.bool (decide (sgn (decide (a < (0 : Int))) (a.natAbs % b.natAbs) < (0 : Int)))), CV.lit (Value.string (bytesOf (sgn (decide (a < (0 : Int))) (a.natAbs % b.natAbs)).natAbs))])), (48, Or.b true), (55, Or.b true), (57, Or.r (CV.agg [CV.lit (Value.bool false), CV.lit (Value.string (bytesOf 1))])), (58, Or.r (CV.agg [CV.lit (Value.bool (decide (sgn (!decide (a < (0 : Int)) == decide (b < (0 : Int))) (a.natAbs / b.natAbs) - (1 : Int) < (0 : Int)))), CV.lit (Value.string (bytesOf (sgn (!decide (a < (0 : Int)) == decide (b < (0 : Int))) (a.natAbs / b.natAbs) - (1 : Int)).natAbs))])), (61, Or.r (CV.agg [CV.lit (Value.bool (decide (sgn (decide (a < (0 : Int))) (a.natAbs % b.natAbs) + b < (0 : Int)))), CV.lit (Value.string (bytesOf (sgn (decide (a < (0 : Int))) (a.natAbs % b.natAbs) + b).natAbs))]))]) (by kernel_rfl) (.cons (Go.Fw.Valid_int (a)) (.cons (Go.Fw.Valid_int (b)) (.cons h1 (.cons (Go.Fw.of_bytes (a.natAbs) s22_0) (.cons (Go.Fw.of_bytes (b.natAbs) s25_0) (.cons (Go.Fw.divide_spec (a.natAbs) (b.natAbs) s26_0 s26_1 s26_2) (.cons (Go.Fw.with_int (a.natAbs / b.natAbs) (!decide (a < (0 : Int)) == decide (b < (0 : Int))) s38_0) (.cons (Go.Fw.with_int (a.natAbs % b.natAbs) (decide (a < (0 : Int))) s42_0) (.cons (show 2 ≤ 2 from (by decide)) (.cons (show 2 ≤ 2 from (by decide)) (.cons h2 (.cons h3 (.cons (Go.Fw.Of_spec ((1 : Int)) s57_0) (.cons (Go.Fw.Sub_one (sgn (!decide (a < (0 : Int)) == decide (b < (0 : Int))) (a.natAbs / b.natAbs)) s58_0 s58_1) (.cons (Go.Fw.Add_spec (sgn (decide (a < (0 : Int))) (a.natAbs % b.natAbs)) (b) s61_0 s61_1 s61_2) (.cons (show 2 ≤ 2 from (by decide)) (.cons (show 2 ≤ 2 from (by decide)) (.cons (show 2 ≤ 2 from (by decide)) (.cons (show 2 ≤ 2 from (by decide)) .nil)))))))))))))))))))
theorem DMF_p3 (a : Int) (b : Int) (h1 : ((bytesOf b.natAbs).toList == []) = false) (h2 : (!(bytesOf (sgn (decide (a < (0 : Int))) (a.natAbs % b.natAbs)).natAbs).toList == []) = true) (h3 : (!decide (a < (0 : Int)) == decide (b < (0 : Int))) = false) (s22_0 : Sml a.natAbs) (s25_0 : Sml b.natAbs) (s26_0 : b.natAbs ≠ 0) (s26_1 : (dig 4294967296 a.natAbs).length < 2 ^ 38) (s26_2 : (dig 4294967296 b.natAbs).length < 2 ^ 38) (s38_0 : Sml (a.natAbs / b.natAbs)) (s42_0 : Sml (a.natAbs % b.natAbs)) : PCall P (226 : FuncId) [intC a, intC b] (CV.tup [CV.agg [CV.lit (Value.bool (decide (sgn (!decide (a < (0 : Int)) == decide (b < (0 : Int))) (a.natAbs / b.natAbs) < (0 : Int)))), CV.lit (Value.string (bytesOf (sgn (!decide (a < (0 : Int)) == decide (b < (0 : Int))) (a.natAbs / b.natAbs)).natAbs))], CV.agg [CV.lit (Value.bool (decide (sgn (decide (a < (0 : Int))) (a.natAbs % b.natAbs) < (0 : Int)))), CV.lit (Value.string (bytesOf (sgn (decide (a < (0 : Int))) (a.natAbs % b.natAbs)).natAbs))], CV.lit (Value.int IntKind.i64 (0 : Int))]) :=
  pcallR (ors := [(6, Or.r (CV.lit (Value.bool true))), (10, Or.r (CV.lit (Value.bool true))), (19, Or.b false), (22, Or.r (CV.lst (dig 4294967296 a.natAbs).length (u32s (dig 4294967296 a.natAbs)))), (25, Or.r (CV.lst (dig 4294967296 b.natAbs).length (u32s (dig 4294967296 b.natAbs)))), (26, Or.r (CV.tup [CV.lst (dig 4294967296 (a.natAbs / b.natAbs)).length (u32s (dig 4294967296 (a.natAbs / b.natAbs))), CV.lst (dig 4294967296 (a.natAbs % b.natAbs)).length (u32s (dig 4294967296 (a.natAbs % b.natAbs)))])), (38, Or.r (CV.agg [CV.lit (Value.bool (decide (sgn (!decide (a < (0 : Int)) == decide (b < (0 : Int))) (a.natAbs / b.natAbs) < (0 : Int)))), CV.lit (Value.string (bytesOf (sgn (!decide (a < (0 : Int)) == decide (b < (0 : Int))) (a.natAbs / b.natAbs)).natAbs))])), (42, Or.r (CV.agg [CV.lit (Value.bool (decide (sgn (decide (a < (0 : Int))) (a.natAbs % b.natAbs) < (0 : Int)))), CV.lit (Value.string (bytesOf (sgn (decide (a < (0 : Int))) (a.natAbs % b.natAbs)).natAbs))])), (48, Or.b true), (55, Or.b false)]) (by kernel_rfl) (.cons (Go.Fw.Valid_int (a)) (.cons (Go.Fw.Valid_int (b)) (.cons h1 (.cons (Go.Fw.of_bytes (a.natAbs) s22_0) (.cons (Go.Fw.of_bytes (b.natAbs) s25_0) (.cons (Go.Fw.divide_spec (a.natAbs) (b.natAbs) s26_0 s26_1 s26_2) (.cons (Go.Fw.with_int (a.natAbs / b.natAbs) (!decide (a < (0 : Int)) == decide (b < (0 : Int))) s38_0) (.cons (Go.Fw.with_int (a.natAbs % b.natAbs) (decide (a < (0 : Int))) s42_0) (.cons (show 2 ≤ 2 from (by decide)) (.cons (show 2 ≤ 2 from (by decide)) (.cons h2 (.cons h3 (.cons (show 2 ≤ 2 from (by decide)) (.cons (show 2 ≤ 2 from (by decide)) .nil))))))))))))))
theorem DMF_p4 (a : Int) (b : Int) (h1 : ((bytesOf b.natAbs).toList == []) = false) (h2 : (!(bytesOf (sgn (decide (a < (0 : Int))) (a.natAbs % b.natAbs)).natAbs).toList == []) = false) (s22_0 : Sml a.natAbs) (s25_0 : Sml b.natAbs) (s26_0 : b.natAbs ≠ 0) (s26_1 : (dig 4294967296 a.natAbs).length < 2 ^ 38) (s26_2 : (dig 4294967296 b.natAbs).length < 2 ^ 38) (s38_0 : Sml (a.natAbs / b.natAbs)) (s42_0 : Sml (a.natAbs % b.natAbs)) : PCall P (226 : FuncId) [intC a, intC b] (CV.tup [CV.agg [CV.lit (Value.bool (decide (sgn (!decide (a < (0 : Int)) == decide (b < (0 : Int))) (a.natAbs / b.natAbs) < (0 : Int)))), CV.lit (Value.string (bytesOf (sgn (!decide (a < (0 : Int)) == decide (b < (0 : Int))) (a.natAbs / b.natAbs)).natAbs))], CV.agg [CV.lit (Value.bool (decide (sgn (decide (a < (0 : Int))) (a.natAbs % b.natAbs) < (0 : Int)))), CV.lit (Value.string (bytesOf (sgn (decide (a < (0 : Int))) (a.natAbs % b.natAbs)).natAbs))], CV.lit (Value.int IntKind.i64 (0 : Int))]) :=
  pcallR (ors := [(6, Or.r (CV.lit (Value.bool true))), (10, Or.r (CV.lit (Value.bool true))), (19, Or.b false), (22, Or.r (CV.lst (dig 4294967296 a.natAbs).length (u32s (dig 4294967296 a.natAbs)))), (25, Or.r (CV.lst (dig 4294967296 b.natAbs).length (u32s (dig 4294967296 b.natAbs)))), (26, Or.r (CV.tup [CV.lst (dig 4294967296 (a.natAbs / b.natAbs)).length (u32s (dig 4294967296 (a.natAbs / b.natAbs))), CV.lst (dig 4294967296 (a.natAbs % b.natAbs)).length (u32s (dig 4294967296 (a.natAbs % b.natAbs)))])), (38, Or.r (CV.agg [CV.lit (Value.bool (decide (sgn (!decide (a < (0 : Int)) == decide (b < (0 : Int))) (a.natAbs / b.natAbs) < (0 : Int)))), CV.lit (Value.string (bytesOf (sgn (!decide (a < (0 : Int)) == decide (b < (0 : Int))) (a.natAbs / b.natAbs)).natAbs))])), (42, Or.r (CV.agg [CV.lit (Value.bool (decide (sgn (decide (a < (0 : Int))) (a.natAbs % b.natAbs) < (0 : Int)))), CV.lit (Value.string (bytesOf (sgn (decide (a < (0 : Int))) (a.natAbs % b.natAbs)).natAbs))])), (48, Or.b false)]) (by kernel_rfl) (.cons (Go.Fw.Valid_int (a)) (.cons (Go.Fw.Valid_int (b)) (.cons h1 (.cons (Go.Fw.of_bytes (a.natAbs) s22_0) (.cons (Go.Fw.of_bytes (b.natAbs) s25_0) (.cons (Go.Fw.divide_spec (a.natAbs) (b.natAbs) s26_0 s26_1 s26_2) (.cons (Go.Fw.with_int (a.natAbs / b.natAbs) (!decide (a < (0 : Int)) == decide (b < (0 : Int))) s38_0) (.cons (Go.Fw.with_int (a.natAbs % b.natAbs) (decide (a < (0 : Int))) s42_0) (.cons (show 2 ≤ 2 from (by decide)) (.cons (show 2 ≤ 2 from (by decide)) (.cons h2 (.cons (show 2 ≤ 2 from (by decide)) (.cons (show 2 ≤ 2 from (by decide)) .nil)))))))))))))
end Go.Fw
open Go
namespace Go.Fw
set_option maxRecDepth 100000
theorem Sml.gcd {x y : Nat} (hx : Sml x) (hy : Sml y) : Sml (Nat.gcd x y) := by
  rcases Nat.eq_zero_or_pos x with h | h
  · subst h; rw [Nat.gcd_zero_left]; exact hy
  · exact hx.mono (Nat.gcd_le_left _ h)
theorem common_spec (a b c d e : Int) (h0 : SmlZ a) (h1 : SmlZ b) (h2 : SmlZ c) (h3 : SmlZ d) (h4 : SmlZ e) : PCall P 216 [c4C a b c d, intC e] (intC (gcd5 a b c d e : Nat)) := by
  have g1 : Sml (Nat.gcd e.natAbs a.natAbs) := Sml.gcd h4 h0
  have g2 := Sml.gcd g1 h1
  have g3 := Sml.gcd g2 h2
  have := common_p1 a b c d e h4 h0 (by simpa [SmlZ] using g1) h1 (by simpa [SmlZ] using g2) h2 (by simpa [SmlZ] using g3) h3
  simp only [Int.natAbs_natCast] at this
  exact this
theorem FOf_spec (n : Int) (h : -9223372036854775808 ≤ n ∧ n ≤ 9223372036854775807) : PCall P 144 [ci64 n] (numC (K.ofInt n)) := FOf_p1 n h (by decide)
theorem DM_exact (a b : Int) (ha : SmlZ a) (hb : SmlZ b) (hb0 : b ≠ 0) (hd : b ∣ a) : PCall P 226 [intC a, intC b] (.tup [intC (a / b), intC 0, ci64 0]) := by
  have hl1 := ha.dig32
  have hl2 := hb.dig32
  have hmod : a.natAbs % b.natAbs = 0 := Nat.mod_eq_zero_of_dvd (Int.natAbs_dvd_natAbs.2 hd)
  have hs0 : sgn (decide (a < 0)) 0 = 0 := by unfold sgn; split <;> rfl
  have := DMF_p4 a b (by rw [toList_bytesOf]; simpa using hb0) (by rw [hmod, hs0, toList_bytesOf]; rfl) ha hb (by omega) (by simp only [B32] at *; omega) (by simp only [B32] at *; omega) (ha.mono (Nat.div_le_self _ _)) (by rw [hmod]; exact Sml.of_lt (k := 1) (by decide) (by decide))
  rw [hmod, hs0] at this
  obtain ⟨c, rfl⟩ := hd
  have hq : sgn (!(decide (b * c < 0) == decide (b < 0))) ((b * c).natAbs / b.natAbs) = b * c / b := by
    rw [Int.mul_ediv_cancel_left _ hb0, Int.natAbs_mul, Nat.mul_div_cancel_left _ (by omega)]
    rcases Int.lt_trichotomy b 0 with h | h | h
    · rcases Int.lt_trichotomy c 0 with k | k | k
      · have := Int.mul_pos_of_neg_of_neg h k
        rw [decide_eq_false (by omega), decide_eq_true h]; simp only [sgn]; simp; omega
      · subst k; simp [sgn]
      · have := Int.mul_neg_of_neg_of_pos h k
        rw [decide_eq_true this, decide_eq_true h]; simp only [sgn]; simp; omega
    · exact absurd h hb0
    · rcases Int.lt_trichotomy c 0 with k | k | k
      · have := Int.mul_neg_of_pos_of_neg h k
        rw [decide_eq_true this, decide_eq_false (by omega)]; simp only [sgn]; simp; omega
      · subst k; simp [sgn]
      · have := Int.mul_pos h k
        rw [decide_eq_false (by omega), decide_eq_false (by omega)]; simp only [sgn]; simp; omega
  rw [hq] at this
  exact this
end Go.Fw
open Go
namespace Go.Fw
set_option maxRecDepth 100000
def gcO (W : Nat → Int) (g : Int) (i : Nat) : St := ⟨mkTm 28 [(1, .ptr 0 0), (3, .cv (ci64 g)), (4, .cv (ci64 (i : Int)))], [some (own (i5 W))]⟩
def gcT (W : Nat → Int) (a b i : Int) : St := ⟨mkTm 28 [(1, .ptr 0 0), (4, .cv (ci64 i)), (5, .cv (ci64 a)), (6, .cv (ci64 b))], [some (own (i5 W))]⟩
theorem gc_o (W : Nat → Int) (g : Int) : ∀ i, i < 5 → (runA P 192 (loopHead P 192 0) (gcO W g i) [(15, .stop)] false 100000).pick [1, 4, 5, 6] [0] =
    some (loopHead P 192 1, gcT W g (if IntKind.i64.wrap (0 - W i) > W i then IntKind.i64.wrap (0 - W i) else W i) (i : Int), [(0 : Int) ≤ (i : Int) ∧ (i : Int) < 5, (0 : Int) ≤ (i : Int) ∧ (i : Int) < 5, CvL (own (i5 W))]) := by
  intro i hi
  have : i = 0 ∨ i = 1 ∨ i = 2 ∨ i = 3 ∨ i = 4 := by omega
  rcases this with rfl | rfl | rfl | rfl | rfl <;> (show _ = _; kernel_rfl)
theorem gc_x (W : Nat → Int) (g : Int) : runA P 192 (loopHead P 192 0) (gcO W g 5) [] false 100000 = .ret (ci64 g) [] := by
  show _ = _
  kernel_rfl
theorem gc_s (W : Nat → Int) : (runF P 192 [.agg (i5 W)] [(4, .stop)] false 100000).pick [1, 3, 4] [0] = some (loopHead P 192 0, gcO W 0 0, [CvL (own (i5 W))]) := by
  show _ = _
  kernel_rfl
/-- The loop of Euclid. -/
theorem gc_in {R : Goal} (hn : R.n = 0) (W : Nat → Int) (i : Int) (hi : 0 ≤ i ∧ i < 5) (g : Nat) (hR : Ok P 192 (loopHead P 192 0) ⟨mkTm 28 [(1, .ptr 0 0), (3, .cv (ci64 (g : Int))), (4, .cv (ci64 (i + 1)))], [some (own (i5 W))]⟩ R) :
    ∀ (m : Nat) (a b : Nat), b ≤ m → a < 2 ^ 63 → b < 2 ^ 63 → Nat.gcd a b = g → Ok P 192 (loopHead P 192 1) (gcT W (a : Int) (b : Int) i) R
  | m, a, 0, _, ha, _, hg => by
    rw [Nat.gcd_zero_right] at hg
    subst hg
    refine gcI_p2 W _ _ i rfl (by rw [hn]; rfl) ?_
    rw [w64 (by omega)]
    exact hR
  | 0, a, b + 1, h, _, _, _ => by omega
  | m + 1, a, b + 1, hm, ha, hb, hg => by
    have hlt : a % (b + 1) < b + 1 := Nat.mod_lt a (Nat.succ_pos b)
    refine gcI_p1 W _ _ i (by simp; omega) (by omega) (by rw [hn]; rfl) ?_
    rw [Int.tmod_eq_emod_of_nonneg (by omega), show ((a : Int) % ((b + 1 : Nat) : Int)) = ((a % (b + 1) : Nat) : Int) by simp]
    refine gc_in hn W i hi g hR m (b + 1) (a % (b + 1)) (by omega) hb (by omega) ?_
    rw [← hg, Nat.gcd_comm a (b + 1), Nat.gcd_comm (b + 1) (a % (b + 1)), ← Nat.gcd_rec]
theorem abs_max (z : Int) (h : z.natAbs < 2 ^ 63) : (if IntKind.i64.wrap (0 - z) > z then IntKind.i64.wrap (0 - z) else z) = (z.natAbs : Int) := by
  rw [w64 (by omega)]
  split <;> omega
def gcAt (W : Nat → Int) : Nat → Nat
  | 0 => 0
  | n + 1 => Nat.gcd (gcAt W n) (W n).natAbs
theorem gcAt_lt (W : Nat → Int) (h : ∀ i, i < 5 → (W i).natAbs < 2 ^ 63) : ∀ n, n ≤ 5 → gcAt W n < 2 ^ 63
  | 0, _ => (by decide : 0 < 2 ^ 63)
  | n + 1, hn => by
    have ih := gcAt_lt W h n (by omega)
    have hw := h n (by omega)
    unfold gcAt
    rcases Nat.eq_zero_or_pos (W n).natAbs with h0 | h0
    · rw [h0, Nat.gcd_zero_right]; exact ih
    · exact Nat.lt_of_le_of_lt (Nat.gcd_le_right _ h0) hw
theorem gcd_spec (W : Nat → Int) (h : ∀ i, i < 5 → (W i).natAbs < 2 ^ 63) : PCall P 192 [.agg (i5 W)] (ci64 (gcAt W 5 : Nat)) := by
  refine pcallQ_eq (pcallS (gc_s W) rfl (.cons (own_cvl _) .nil) ?_)
  have hn : (Goal.of (fun x => x = ci64 (gcAt W 5 : Nat))).n = 0 := rfl
  have step : ∀ i, i < 5 → Ok P 192 (loopHead P 192 0) (gcO W (gcAt W (i + 1) : Nat) (i + 1)) (Goal.of (fun x => x = ci64 (gcAt W 5 : Nat))) → Ok P 192 (loopHead P 192 0) (gcO W (gcAt W i : Nat) i) (Goal.of (fun x => x = ci64 (gcAt W 5 : Nat))) := by
    intro i hi hk
    refine okS (gc_o W _ i hi) rfl (.cons (by omega) (.cons (by omega) (.cons (own_cvl _) .nil))) rfl ?_
    rw [abs_max _ (h i hi)]
    exact gc_in hn W i (by omega) _ hk _ _ _ (Nat.le_refl _) (gcAt_lt W h i (by omega)) (h i hi) rfl
  refine step 0 (by decide) (step 1 (by decide) (step 2 (by decide) (step 3 (by decide) (step 4 (by decide) ?_))))
  exact okR (gc_x W _) .nil rfl
theorem gcAt5 (W : Nat → Int) : gcAt W 5 = gcd5 (W 0) (W 1) (W 2) (W 3) (W 4) := by
  simp only [gcAt, gcd5, Nat.gcd_zero_left]
  rw [Nat.gcd_comm (Nat.gcd _ _) (W 4).natAbs, Nat.gcd_assoc, Nat.gcd_assoc, Nat.gcd_assoc, Nat.gcd_assoc, Nat.gcd_assoc]
end Go.Fw
open Go
namespace Go.Fw
set_option maxRecDepth 100000

theorem nbF_p1 (W : Nat → Int) (s3_0 : ∀ (i : Nat), i < 5 → (W i).natAbs < 2 ^ 63) (s17_0 : (-9223372036854775808 : Int) ≤ IntKind.i64.wrap ((W 0).tdiv (↑(gcAt W 5) : Int)) ∧ IntKind.i64.wrap ((W 0).tdiv (↑(gcAt W 5) : Int)) ≤ (9223372036854775807 : Int)) (s34_0 : (-9223372036854775808 : Int) ≤ IntKind.i64.wrap ((W 1).tdiv (↑(gcAt W 5) : Int)) ∧ IntKind.i64.wrap ((W 1).tdiv (↑(gcAt W 5) : Int)) ≤ (9223372036854775807 : Int)) (s51_0 : (-9223372036854775808 : Int) ≤ IntKind.i64.wrap ((W 2).tdiv (↑(gcAt W 5) : Int)) ∧ IntKind.i64.wrap ((W 2).tdiv (↑(gcAt W 5) : Int)) ≤ (9223372036854775807 : Int)) (s68_0 : (-9223372036854775808 : Int) ≤ IntKind.i64.wrap ((W 3).tdiv (↑(gcAt W 5) : Int)) ∧ IntKind.i64.wrap ((W 3).tdiv (↑(gcAt W 5) : Int)) ≤ (9223372036854775807 : Int)) (s83_0 : (-9223372036854775808 : Int) ≤ IntKind.i64.wrap ((W 4).tdiv (↑(gcAt W 5) : Int)) ∧ IntKind.i64.wrap ((W 4).tdiv (↑(gcAt W 5) : Int)) ≤ (9223372036854775807 : Int)) (o2 : (↑(gcAt W 5) : Int) ≠ (0 : Int)) (o7 : (↑(gcAt W 5) : Int) ≠ (0 : Int)) (o12 : (↑(gcAt W 5) : Int) ≠ (0 : Int)) (o17 : (↑(gcAt W 5) : Int) ≠ (0 : Int)) (o22 : (↑(gcAt W 5) : Int) ≠ (0 : Int)) : PCall P (126 : FuncId) [CV.agg [ci64 (W 0), ci64 (W 1), ci64 (W 2), ci64 (W 3), ci64 (W 4)]] (CV.agg [CV.lit (Value.bool (decide (IntKind.i64.wrap ((W 0).tdiv (↑(gcAt W 5) : Int)) < (0 : Int)))), CV.lit (Value.string (bytesOf (IntKind.i64.wrap ((W 0).tdiv (↑(gcAt W 5) : Int))).natAbs)), CV.lit (Value.bool (decide (IntKind.i64.wrap ((W 1).tdiv (↑(gcAt W 5) : Int)) < (0 : Int)))), CV.lit (Value.string (bytesOf (IntKind.i64.wrap ((W 1).tdiv (↑(gcAt W 5) : Int))).natAbs)), CV.lit (Value.bool (decide (IntKind.i64.wrap ((W 2).tdiv (↑(gcAt W 5) : Int)) < (0 : Int)))), CV.lit (Value.string (bytesOf (IntKind.i64.wrap ((W 2).tdiv (↑(gcAt W 5) : Int))).natAbs)), CV.lit (Value.bool (decide (IntKind.i64.wrap ((W 3).tdiv (↑(gcAt W 5) : Int)) < (0 : Int)))), CV.lit (Value.string (bytesOf (IntKind.i64.wrap ((W 3).tdiv (↑(gcAt W 5) : Int))).natAbs)), CV.lit (Value.bool (decide (IntKind.i64.wrap ((W 4).tdiv (↑(gcAt W 5) : Int)) < (0 : Int)))), CV.lit (Value.string (bytesOf (IntKind.i64.wrap ((W 4).tdiv (↑(gcAt W 5) : Int))).natAbs))]) :=
  pcallR (ors := [(3, Or.r (CV.lit (Value.int IntKind.i64 (↑(gcAt W 5) : Int)))), (17, Or.r (CV.agg [CV.lit (Value.bool (decide (IntKind.i64.wrap ((W 0).tdiv (↑(gcAt W 5) : Int)) < (0 : Int)))), CV.lit (Value.string (bytesOf (IntKind.i64.wrap ((W 0).tdiv (↑(gcAt W 5) : Int))).natAbs))])), (34, Or.r (CV.agg [CV.lit (Value.bool (decide (IntKind.i64.wrap ((W 1).tdiv (↑(gcAt W 5) : Int)) < (0 : Int)))), CV.lit (Value.string (bytesOf (IntKind.i64.wrap ((W 1).tdiv (↑(gcAt W 5) : Int))).natAbs))])), (51, Or.r (CV.agg [CV.lit (Value.bool (decide (IntKind.i64.wrap ((W 2).tdiv (↑(gcAt W 5) : Int)) < (0 : Int)))), CV.lit (Value.string (bytesOf (IntKind.i64.wrap ((W 2).tdiv (↑(gcAt W 5) : Int))).natAbs))])), (68, Or.r (CV.agg [CV.lit (Value.bool (decide (IntKind.i64.wrap ((W 3).tdiv (↑(gcAt W 5) : Int)) < (0 : Int)))), CV.lit (Value.string (bytesOf (IntKind.i64.wrap ((W 3).tdiv (↑(gcAt W 5) : Int))).natAbs))])), (83, Or.r (CV.agg [CV.lit (Value.bool (decide (IntKind.i64.wrap ((W 4).tdiv (↑(gcAt W 5) : Int)) < (0 : Int)))), CV.lit (Value.string (bytesOf (IntKind.i64.wrap ((W 4).tdiv (↑(gcAt W 5) : Int))).natAbs))]))]) (by kernel_rfl) (.cons (Go.Fw.gcd_spec (W) s3_0) (.cons (show (0 : Int) ≤ (0 : Int) ∧ (0 : Int) < (5 : Int) from (by decide)) (.cons o2 (.cons (Go.Fw.ROf_spec (IntKind.i64.wrap ((W 0).tdiv (↑(gcAt W 5) : Int))) s17_0) (.cons (show (0 : Int) ≤ (0 : Int) ∧ (0 : Int) < (4 : Int) from (by decide)) (.cons (show 2 ≤ 10 from (by decide)) (.cons (show (0 : Int) ≤ (1 : Int) ∧ (1 : Int) < (5 : Int) from (by decide)) (.cons o7 (.cons (Go.Fw.ROf_spec (IntKind.i64.wrap ((W 1).tdiv (↑(gcAt W 5) : Int))) s34_0) (.cons (show (0 : Int) ≤ (1 : Int) ∧ (1 : Int) < (4 : Int) from (by decide)) (.cons (show 4 ≤ 10 from (by decide)) (.cons (show (0 : Int) ≤ (2 : Int) ∧ (2 : Int) < (5 : Int) from (by decide)) (.cons o12 (.cons (Go.Fw.ROf_spec (IntKind.i64.wrap ((W 2).tdiv (↑(gcAt W 5) : Int))) s51_0) (.cons (show (0 : Int) ≤ (2 : Int) ∧ (2 : Int) < (4 : Int) from (by decide)) (.cons (show 6 ≤ 10 from (by decide)) (.cons (show (0 : Int) ≤ (3 : Int) ∧ (3 : Int) < (5 : Int) from (by decide)) (.cons o17 (.cons (Go.Fw.ROf_spec (IntKind.i64.wrap ((W 3).tdiv (↑(gcAt W 5) : Int))) s68_0) (.cons (show (0 : Int) ≤ (3 : Int) ∧ (3 : Int) < (4 : Int) from (by decide)) (.cons (show 8 ≤ 10 from (by decide)) (.cons (show (0 : Int) ≤ (4 : Int) ∧ (4 : Int) < (5 : Int) from (by decide)) (.cons o22 (.cons (Go.Fw.ROf_spec (IntKind.i64.wrap ((W 4).tdiv (↑(gcAt W 5) : Int))) s83_0) (.cons (show 10 ≤ 10 from (by decide)) (.cons (show 10 ≤ 10 from (by decide)) .nil))))))))))))))))))))))))))
end Go.Fw
open Go
namespace Go.Fw
set_option maxRecDepth 100000
theorem tdiv_wrap {a : Int} {g : Nat} (ha : a.natAbs < 2 ^ 63) (hd : (g : Int) ∣ a) : IntKind.i64.wrap (a.tdiv (g : Int)) = a / (g : Int) := by
  rw [Int.tdiv_eq_ediv_of_dvd hd, w64]
  have := K.natAbs_ediv_le a (g : Int) hd
  omega
theorem natAbs_bd {a : Int} {g : Nat} (ha : a.natAbs < 2 ^ 63) (hd : (g : Int) ∣ a) : -9223372036854775808 ≤ a / (g : Int) ∧ a / (g : Int) ≤ 9223372036854775807 := by
  have := K.natAbs_ediv_le a (g : Int) hd
  omega
theorem rnumber_spec (W : Nat → Int) (h : ∀ i, i < 5 → (W i).natAbs < 2 ^ 63) (h4 : 0 < W 4) : PCall P 126 [.agg (i5 W)] (numC (K.of (W 0) (W 1) (W 2) (W 3) (W 4))) := by
  obtain ⟨d0, d1, d2, d3, d4⟩ := gcd5_dvd (W 0) (W 1) (W 2) (W 3) (W 4)
  have hg : ((gcAt W 5 : Nat) : Int) ≠ 0 := by
    rw [gcAt5]; have := gcd5_pos (a := W 0) (b := W 1) (c := W 2) (d := W 3) (e := W 4) (by omega); omega
  rw [← gcAt5] at d0 d1 d2 d3 d4
  have w0 := tdiv_wrap (h 0 (by decide)) d0
  have w1 := tdiv_wrap (h 1 (by decide)) d1
  have w2 := tdiv_wrap (h 2 (by decide)) d2
  have w3 := tdiv_wrap (h 3 (by decide)) d3
  have w4 := tdiv_wrap (h 4 (by decide)) d4
  refine (nbF_p1 W h (by rw [w0]; exact natAbs_bd (h 0 (by decide)) d0) (by rw [w1]; exact natAbs_bd (h 1 (by decide)) d1) (by rw [w2]; exact natAbs_bd (h 2 (by decide)) d2) (by rw [w3]; exact natAbs_bd (h 3 (by decide)) d3) (by rw [w4]; exact natAbs_bd (h 4 (by decide)) d4) hg hg hg hg hg).eq ?_
  rw [w0, w1, w2, w3, w4]
  have hden : K.den (W 0) (W 1) (W 2) (W 3) (W 4) = ((gcAt W 5 : Nat) : Int) := by unfold K.den; rw [if_neg (by omega), gcAt5]
  have key : ∀ x : K, x = K.of (W 0) (W 1) (W 2) (W 3) (W 4) → x.c0 = W 0 / ((gcAt W 5 : Nat) : Int) ∧ x.c1 = W 1 / ((gcAt W 5 : Nat) : Int) ∧ x.c2 = W 2 / ((gcAt W 5 : Nat) : Int) ∧ x.c3 = W 3 / ((gcAt W 5 : Nat) : Int) ∧ x.d = W 4 / ((gcAt W 5 : Nat) : Int) := by
    intro x hx
    subst hx
    unfold K.of
    rw [dif_neg (by omega : W 4 ≠ 0)]
    simp only [hden, and_self]
  obtain ⟨e0, e1, e2, e3, e4⟩ := key _ rfl
  show n5C _ _ _ _ _ = n5C _ _ _ _ _
  rw [e0, e1, e2, e3, e4]
/-- A number's parts. -/
def kZ (x : K) : Nat → Int
  | 0 => x.c0
  | 1 => x.c1
  | 2 => x.c2
  | 3 => x.c3
  | _ => x.d
def kB (x : K) (i : Nat) : Bool := decide (kZ x i < 0)
def kS (x : K) (i : Nat) : ByteArray := bytesOf (kZ x i).natAbs
theorem numC_raw (x : K) : numC x = rawC (kB x) (kS x) := rfl
theorem zOf_int (z : Int) : zOf (decide (z < 0)) (bytesOf z.natAbs) = z := by
  unfold zOf
  rw [strVal_bytesOf]
  by_cases h : z < 0
  · rw [decide_eq_true h]; simp; omega
  · rw [decide_eq_false h]; simp; omega
theorem rawZ_k (x : K) (i : Nat) : rawZ (kB x) (kS x) i = kZ x i := zOf_int _
theorem validB_int (z : Int) : validB (decide (z < 0)) (bytesOf z.natAbs) = true := by
  rw [validB]
  by_cases h : z = 0
  · subst h; rfl
  · have : (bytesOf z.natAbs).size ≠ 0 := by rw [Ne, bytesOf_size_zero]; omega
    rw [if_neg this]
    have := bytesOf_first (n := z.natAbs) (by omega)
    rw [decide_eq_true this]
/-- Numbers whose integers have at most three bytes. -/
def Sm3 (x : K) : Prop := ∀ i, i < 5 → (kZ x i).natAbs < 256 ^ 3
theorem Sm3.ok {x : K} (h : Sm3 x) : ∀ i, i < 5 → wdOk (kB x) (kS x) i := fun i hi => ⟨size_le.2 (h i hi), validB_int _⟩
theorem words_k (x : K) (h : Sm3 x) : PCall P 125 [numC x] (wdV (kZ x) true) := by
  refine (words_ok (B := kB x) (S := kS x) h.ok).eq ?_
  unfold wdV
  rw [i5_congr (fun i _ => rawZ_k x i)]
theorem words_not (x : K) (h : ¬ Sm3 x) : ∃ W, PCall P 125 [numC x] (wdV W false) :=
  words_bad (B := kB x) (S := kS x) fun hc => h fun i hi => size_le.1 (hc i hi).1
end Go.Fw
open Go
namespace Go.Fw
set_option maxRecDepth 100000

theorem VaK_p1 (x : K) (h1 : (decide (kZ x 4 > (0 : Int))) = true) (s3_0 : Sm3 x) (s17_0 : ∀ (i : Nat), i < 5 → (kZ x i).natAbs < 2 ^ 63) : PCall P (124 : FuncId) [numC x] (CV.lit (Value.bool ((↑(gcAt (kZ x) 5) : Int) == (1 : Int)))) :=
  pcallR (ors := [(3, Or.r (CV.tup [CV.agg [CV.lit (Value.int IntKind.i64 (kZ x 0)), CV.lit (Value.int IntKind.i64 (kZ x 1)), CV.lit (Value.int IntKind.i64 (kZ x 2)), CV.lit (Value.int IntKind.i64 (kZ x 3)), CV.lit (Value.int IntKind.i64 (kZ x 4))], CV.lit (Value.bool true)])), (15, Or.b true), (17, Or.r (CV.lit (Value.int IntKind.i64 (↑(gcAt (kZ x) 5) : Int))))]) (by kernel_rfl) (.cons (Go.Fw.words_k (x) s3_0) (.cons (show 5 ≤ 5 from (by decide)) (.cons (show (0 : Int) ≤ (4 : Int) ∧ (4 : Int) < (5 : Int) from (by decide)) (.cons h1 (.cons (Go.Fw.gcd_spec (kZ x) s17_0) .nil)))))
theorem VaK_p2 (x : K) (h1 : (decide (kZ x 4 > (0 : Int))) = false) (s3_0 : Sm3 x) : PCall P (124 : FuncId) [numC x] (CV.lit (Value.bool false)) :=
  pcallR (ors := [(3, Or.r (CV.tup [CV.agg [CV.lit (Value.int IntKind.i64 (kZ x 0)), CV.lit (Value.int IntKind.i64 (kZ x 1)), CV.lit (Value.int IntKind.i64 (kZ x 2)), CV.lit (Value.int IntKind.i64 (kZ x 3)), CV.lit (Value.int IntKind.i64 (kZ x 4))], CV.lit (Value.bool true)])), (15, Or.b false)]) (by kernel_rfl) (.cons (Go.Fw.words_k (x) s3_0) (.cons (show 5 ≤ 5 from (by decide)) (.cons (show (0 : Int) ≤ (4 : Int) ∧ (4 : Int) < (5 : Int) from (by decide)) (.cons h1 .nil))))
theorem OfK_p1 (n : Int) (s2_0 : (-9223372036854775808 : Int) ≤ n ∧ n ≤ (9223372036854775807 : Int)) (s4_0 : (-9223372036854775808 : Int) ≤ (1 : Int) ∧ (1 : Int) ≤ (9223372036854775807 : Int)) : PCall P (40 : FuncId) [ci64 n] (CV.agg [CV.lit (Value.bool (decide (n < (0 : Int)))), CV.lit (Value.string (bytesOf n.natAbs)), CV.lit (Value.bool false), CV.lit (Value.string { data := #[] }), CV.lit (Value.bool false), CV.lit (Value.string { data := #[] }), CV.lit (Value.bool false), CV.lit (Value.string { data := #[] }), CV.lit (Value.bool false), CV.lit (Value.string (bytesOf 1))]) :=
  pcallR (ors := [(2, Or.r (CV.agg [CV.lit (Value.bool (decide (n < (0 : Int)))), CV.lit (Value.string (bytesOf n.natAbs))])), (4, Or.r (CV.agg [CV.lit (Value.bool false), CV.lit (Value.string (bytesOf 1))]))]) (by kernel_rfl) (.cons (Go.Fw.ROf_spec (n) s2_0) (.cons (Go.Fw.ROf_spec ((1 : Int)) s4_0) (.cons (show 10 ≤ 10 from (by decide)) .nil)))
end Go.Fw
open Go
namespace Go.Fw
set_option maxRecDepth 100000
theorem Sm3.lt {x : K} (h : Sm3 x) : ∀ i, i < 5 → (kZ x i).natAbs < 2 ^ 63 := fun i hi => Nat.lt_trans (h i hi) (by decide)
/-- Valid, small numbers. -/
theorem RVal_k (x : K) (h : Sm3 x) : PCall P 124 [numC x] (.lit (.bool true)) := by
  refine (VaK_p1 x (decide_eq_true x.pos) h h.lt).eqB ?_
  rw [gcAt5]
  have : gcd5 (kZ x 0) (kZ x 1) (kZ x 2) (kZ x 3) (kZ x 4) = 1 := x.cop
  rw [this]; rfl
theorem ROfN_spec (n : Int) (h : -9223372036854775808 ≤ n ∧ n ≤ 9223372036854775807) : PCall P 40 [ci64 n] (numC (K.ofInt n)) := OfK_p1 n h (by decide)
/-- Machine integers whose absolute value is one. -/
def M5 (a b c d e : Int) : Prop := a.natAbs < 2 ^ 63 ∧ b.natAbs < 2 ^ 63 ∧ c.natAbs < 2 ^ 63 ∧ d.natAbs < 2 ^ 63 ∧ e.natAbs < 2 ^ 63
def f5 (a b c d e : Int) : Nat → Int
  | 0 => a
  | 1 => b
  | 2 => c
  | 3 => d
  | _ => e
theorem M5.f5 {a b c d e : Int} (h : M5 a b c d e) : ∀ i, i < 5 → (f5 a b c d e i).natAbs < 2 ^ 63 := by
  intro i hi
  have : i = 0 ∨ i = 1 ∨ i = 2 ∨ i = 3 ∨ i = 4 := by omega
  rcases this with rfl | rfl | rfl | rfl | rfl
  · exact h.1
  · exact h.2.1
  · exact h.2.2.1
  · exact h.2.2.2.1
  · exact h.2.2.2.2
theorem rnum5 (a b c d e : Int) (h : M5 a b c d e) (he : 0 < e) : PCall P 126 [.agg [ci64 a, ci64 b, ci64 c, ci64 d, ci64 e]] (numC (K.of a b c d e)) := rnumber_spec (f5 a b c d e) h.f5 he
end Go.Fw
