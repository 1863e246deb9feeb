/- A part of the proof that the law returns true for every input: an executor for the model's code, and what functions of the program compute. -/
import Derived.Test.YtcafjpldfnegiaaGreatDoorB11
import Derived.Test.YtcafjpldfnegiaaGreatDoorB15
import Derived.Test.YtcafjpldfnegiaaGreatDoorB16
import Derived.Test.YtcafjpldfnegiaaGreatDoorB20
import Derived.Test.YtcafjpldfnegiaaGreatDoorB21
import Derived.Test.YtcafjpldfnegiaaGreatDoorB25
import Derived.Test.YtcafjpldfnegiaaGreatDoorB27
import Derived.KernelRfl
open Go
namespace Go.Fw
set_option maxRecDepth 100000
def gcO (W : Nat → Int) (g : Int) (i : Nat) : St := ⟨mkTm 28 [(1, .ptr 0 0), (3, .cv (ci64 g)), (4, .cv (ci64 (i : Int)))], [some (own (i5 W))]⟩
def gcT (W : Nat → Int) (a b i : Int) : St := ⟨mkTm 28 [(1, .ptr 0 0), (4, .cv (ci64 i)), (5, .cv (ci64 a)), (6, .cv (ci64 b))], [some (own (i5 W))]⟩
theorem gc_o (W : Nat → Int) (g : Int) : ∀ i, i < 5 → (runA P 192 (loopHead P 192 0) (gcO W g i) [(15, .stop)] false 100000).pick [1, 4, 5, 6] [0] =
    some (loopHead P 192 1, gcT W g (if IntKind.i64.wrap (0 - W i) > W i then IntKind.i64.wrap (0 - W i) else W i) (i : Int), [(0 : Int) ≤ (i : Int) ∧ (i : Int) < 5, (0 : Int) ≤ (i : Int) ∧ (i : Int) < 5, CvL (own (i5 W))]) := by
 intro i hi
 have : i = 0 ∨ i = 1 ∨ i = 2 ∨ i = 3 ∨ i = 4 := by omega
 rcases this with rfl | rfl | rfl | rfl | rfl <;> (show _ = _; kernel_rfl)
theorem gc_x (W : Nat → Int) (g : Int) : runA P 192 (loopHead P 192 0) (gcO W g 5) [] false 100000 = .ret (ci64 g) [] := by
 show _ = _
 kernel_rfl
theorem gc_s (W : Nat → Int) : (runF P 192 [.agg (i5 W)] [(4, .stop)] false 100000).pick [1, 3, 4] [0] = some (loopHead P 192 0, gcO W 0 0, [CvL (own (i5 W))]) := by
 show _ = _
 kernel_rfl
theorem gc_in {R : Goal} (hn : R.n = 0) (W : Nat → Int) (i : Int) (hi : 0 ≤ i ∧ i < 5) (g : Nat) (hR : Ok P 192 (loopHead P 192 0) ⟨mkTm 28 [(1, .ptr 0 0), (3, .cv (ci64 (g : Int))), (4, .cv (ci64 (i + 1)))], [some (own (i5 W))]⟩ R) :
    ∀ (m : Nat) (a b : Nat), b ≤ m → a < 2 ^ 63 → b < 2 ^ 63 → Nat.gcd a b = g → Ok P 192 (loopHead P 192 1) (gcT W (a : Int) (b : Int) i) R
 | m, a, 0, _, ha, _, hg => by
  rw [Nat.gcd_zero_right] at hg
  subst hg
  refine gcI_p2 W _ _ i rfl (by rw [hn]; rfl) ?_
  rw [w64 (by omega)]
  exact hR
 | 0, a, b + 1, h, _, _, _ => by omega
 | m + 1, a, b + 1, hm, ha, hb, hg => by
  have hlt : a % (b + 1) < b + 1 := Nat.mod_lt a (Nat.succ_pos b)
  refine gcI_p1 W _ _ i (by simp; omega) (by omega) (by rw [hn]; rfl) ?_
  rw [Int.tmod_eq_emod_of_nonneg (by omega), show ((a : Int) % ((b + 1 : Nat) : Int)) = ((a % (b + 1) : Nat) : Int) by simp]
  refine gc_in hn W i hi g hR m (b + 1) (a % (b + 1)) (by omega) hb (by omega) ?_
  rw [← hg, Nat.gcd_comm a (b + 1), Nat.gcd_comm (b + 1) (a % (b + 1)), ← Nat.gcd_rec]
theorem abs_max (z : Int) (h : z.natAbs < 2 ^ 63) : (if IntKind.i64.wrap (0 - z) > z then IntKind.i64.wrap (0 - z) else z) = (z.natAbs : Int) := by
 rw [w64 (by omega)]
 split <;> omega
def gcAt (W : Nat → Int) : Nat → Nat
 | 0 => 0
 | n + 1 => Nat.gcd (gcAt W n) (W n).natAbs
theorem gcAt_lt (W : Nat → Int) (h : ∀ i, i < 5 → (W i).natAbs < 2 ^ 63) : ∀ n, n ≤ 5 → gcAt W n < 2 ^ 63
 | 0, _ => (by decide : 0 < 2 ^ 63)
 | n + 1, hn => by
  have ih := gcAt_lt W h n (by omega)
  have hw := h n (by omega)
  unfold gcAt
  rcases Nat.eq_zero_or_pos (W n).natAbs with h0 | h0
  · rw [h0, Nat.gcd_zero_right]; exact ih
  · exact Nat.lt_of_le_of_lt (Nat.gcd_le_right _ h0) hw
theorem gcd_spec (W : Nat → Int) (h : ∀ i, i < 5 → (W i).natAbs < 2 ^ 63) : PCall P 192 [.agg (i5 W)] (ci64 (gcAt W 5 : Nat)) := by
 refine pcallQ_eq (pcallS (gc_s W) rfl (.cons (own_cvl _) .nil) ?_)
 have hn : (Goal.of (fun x => x = ci64 (gcAt W 5 : Nat))).n = 0 := rfl
 have step : ∀ i, i < 5 → Ok P 192 (loopHead P 192 0) (gcO W (gcAt W (i + 1) : Nat) (i + 1)) (Goal.of (fun x => x = ci64 (gcAt W 5 : Nat))) → Ok P 192 (loopHead P 192 0) (gcO W (gcAt W i : Nat) i) (Goal.of (fun x => x = ci64 (gcAt W 5 : Nat))) := by
  intro i hi hk
  refine okS (gc_o W _ i hi) rfl (.cons (by omega) (.cons (by omega) (.cons (own_cvl _) .nil))) rfl ?_
  rw [abs_max _ (h i hi)]
  exact gc_in hn W i (by omega) _ hk _ _ _ (Nat.le_refl _) (gcAt_lt W h i (by omega)) (h i hi) rfl
 refine step 0 (by decide) (step 1 (by decide) (step 2 (by decide) (step 3 (by decide) (step 4 (by decide) ?_))))
 exact okR (gc_x W _) .nil rfl
theorem gcAt5 (W : Nat → Int) : gcAt W 5 = gcd5 (W 0) (W 1) (W 2) (W 3) (W 4) := by
 simp only [gcAt, gcd5, Nat.gcd_zero_left]
 rw [Nat.gcd_comm (Nat.gcd _ _) (W 4).natAbs, Nat.gcd_assoc, Nat.gcd_assoc, Nat.gcd_assoc, Nat.gcd_assoc, Nat.gcd_assoc]
end Go.Fw
open Go
namespace Go.Fw
set_option maxRecDepth 100000
def kZ (x : K) : Nat → Int
 | 0 => x.c0
 | 1 => x.c1
 | 2 => x.c2
 | 3 => x.c3
 | _ => x.d
def kB (x : K) (i : Nat) : Bool := decide (kZ x i < 0)
def kS (x : K) (i : Nat) : ByteArray := bytesOf (kZ x i).natAbs
theorem zOf_int (z : Int) : zOf (decide (z < 0)) (bytesOf z.natAbs) = z := by
 unfold zOf
 rw [strVal_bytesOf]
 by_cases h : z < 0
 · rw [decide_eq_true h]; simp; omega
 · rw [decide_eq_false h]; simp; omega
theorem rawZ_k (x : K) (i : Nat) : rawZ (kB x) (kS x) i = kZ x i := zOf_int _
theorem validB_int (z : Int) : validB (decide (z < 0)) (bytesOf z.natAbs) = true := by
 rw [validB]
 by_cases h : z = 0
 · subst h; rfl
 · have : (bytesOf z.natAbs).size ≠ 0 := by rw [Ne, bytesOf_size_zero]; omega
   rw [if_neg this]
   have := bytesOf_first (n := z.natAbs) (by omega)
   rw [decide_eq_true this]
def Sm3 (x : K) : Prop := ∀ i, i < 5 → (kZ x i).natAbs < 256 ^ 3
theorem Sm3.ok {x : K} (h : Sm3 x) : ∀ i, i < 5 → wdOk (kB x) (kS x) i := fun i hi => ⟨size_le.2 (h i hi), validB_int _⟩
theorem words_k (x : K) (h : Sm3 x) : PCall P 125 [numC x] (wdV (kZ x) true) := by
 refine (words_ok (B := kB x) (S := kS x) h.ok).eq ?_
 unfold wdV
 rw [i5_congr (fun i _ => rawZ_k x i)]
end Go.Fw
open Go IntKind
namespace Go.Fw
set_option maxRecDepth 100000
theorem VaK_p1 (x : K) (h1 : decide (kZ x 4 > 0) = true) (s3_0 : Sm3 x) (s17_0 : ∀ (i : Nat), i < 5 → (kZ x i).natAbs < 2 ^ 63) : PCall P 124 [numC x] (.lit (.bool ((↑(gcAt (kZ x) 5) : Int) == 1))) :=
 pcallT (.r 3 (words_k (x) s3_0) (.c (lq 5 5) (.c (bq 4 5) (.b 15 h1 (.r 17 (gcd_spec (kZ x) s17_0) .nil))))) (by kernel_rfl)
end Go.Fw
open Go
namespace Go.Fw
set_option maxRecDepth 100000
theorem Sm3.lt {x : K} (h : Sm3 x) : ∀ i, i < 5 → (kZ x i).natAbs < 2 ^ 63 := fun i hi => Nat.lt_trans (h i hi) (by decide)
theorem RVal_k (x : K) (h : Sm3 x) : PCall P 124 [numC x] (.lit (.bool true)) := by
 refine (VaK_p1 x (decide_eq_true x.pos) h h.lt).eqB ?_
 rw [gcAt5]
 have : gcd5 (kZ x 0) (kZ x 1) (kZ x 2) (kZ x 3) (kZ x 4) = 1 := x.cop
 rw [this]; rfl
end Go.Fw
open Go
namespace Go.Fw
set_option maxRecDepth 100000
theorem Sm3.neg {x : K} (h : Sm3 x) : Sm3 (-x) := by
 intro i hi
 have : i = 0 ∨ i = 1 ∨ i = 2 ∨ i = 3 ∨ i = 4 := by omega
 rcases this with rfl | rfl | rfl | rfl | rfl
 · show (-x.c0).natAbs < _; rw [Int.natAbs_neg]; exact h 0 (by decide)
 · show (-x.c1).natAbs < _; rw [Int.natAbs_neg]; exact h 1 (by decide)
 · show (-x.c2).natAbs < _; rw [Int.natAbs_neg]; exact h 2 (by decide)
 · show (-x.c3).natAbs < _; rw [Int.natAbs_neg]; exact h 3 (by decide)
 · exact h 4 (by decide)
end Go.Fw
open Go
namespace Go.Fw
set_option maxRecDepth 100000
theorem intC_nat (n : Nat) : intC (n : Int) = .agg [.lit (.bool false), cstr (bytesOf n)] := by
 rw [intC, Int.natAbs_natCast, decide_eq_false (by omega)]
theorem RSmall_nat (n : Nat) (h : n < 256 ^ 7) : PCall P 194 [.agg [.lit (.bool false), cstr (bytesOf n)]] (.tup [ci64 (n : Int), .lit (.bool true)]) := by
 have := RSmall_spec (n : Int) (by rwa [Int.natAbs_natCast])
 rwa [intC_nat] at this
end Go.Fw
open Go
namespace Go.Fw
set_option maxRecDepth 100000
theorem rtrim1 : MCall P 234 [some [.cv (ci64 0)]] [.sl 0 0 1 1] (.sl 0 0 0 1) [some [.cv (ci64 0)]] := rtrim_lent 1 [0] rfl (by decide)
theorem rdigits4 : FCall P 195 [cstr (bytesOf 4)] (.sl 0 0 1 1) [ci64 4] := digits_fresh (bytesOf 4) (by decide)
theorem rdigits1 : FCall P 195 [cstr (bytesOf 1)] (.sl 0 0 1 1) [ci64 1] := digits_fresh (bytesOf 1) (by decide)
end Go.Fw
open Go IntKind
namespace Go.Fw
set_option maxRecDepth 100000
theorem GcS_p1 (a b : Int) (h1 : decide ((↑(bytesOf a.natAbs).size : Int) ≤ 7) = true) (h2 : decide ((↑(bytesOf b.natAbs).size : Int) ≤ 7) = true) (s26_0 : a.natAbs < 256 ^ 7) (s35_0 : b.natAbs < 256 ^ 7) {R : CV → Prop} (hR : Ok P 184 (loopHead P 184 0) ⟨mkTm 111 [(4, .ptr 0 0), (5, .cv (.lit (.int .i64 (↑a.natAbs : Int)))), (7, .cv (.lit (.int .i64 (↑b.natAbs : Int))))], [some [.cv (.lit (.bool false)), .cv (.lit (.string { data := #[] }))]]⟩ (.of R)) : PCallQ P 184 [intC a, intC b] R :=
 pcallST (keep := [4, 5, 7]) (σ := [2]) (.r 4 (rValid_int (a)) (.r 8 (rValid_int (b)) (.b 16 h1 (.b 22 h2 (.r 26 (RSmall_nat (a.natAbs) s26_0) (.r 35 (RSmall_nat (b.natAbs) s35_0) (.o 41 .stop .nil))))))) (by kernel_rfl) rfl hR (.cons (by simp [CvL]) .nil)
theorem GcL_p1 (n m : Int) (h1 : (m != 0) = true) (o1 : m ≠ 0) {R : Goal} (hn : lentOk R.n [0] = true) (hR : Ok P 184 (loopHead P 184 0) ⟨mkTm 111 [(4, .ptr 0 0), (5, .cv (.lit (.int .i64 m))), (7, .cv (.lit (.int .i64 (n.tmod m))))], [some [.cv (.lit (.bool false)), .cv (.lit (.string { data := #[] }))]]⟩ R) : Ok P 184 (loopHead P 184 0) ({ tm := mkTm 111 [(4, .ptr 0 0), (5, .cv (ci64 n)), (7, .cv (ci64 m))], hp := [some [.cv (.lit (.bool false)), .cv (cstr { data := #[] })]] }) R :=
 okST (keep := [4, 5, 7]) (σ := [0]) (.b 3 h1 (.c o1 (.o 10 .stop .nil))) (by kernel_rfl) rfl hn hR (.cons (by simp [CvL]) .nil)
theorem GcL_p2 (n m : Int) (h1 : (m != 0) = false) (s5_0 : (-9223372036854775808 : Int) ≤ n ∧ n ≤ 9223372036854775807) {R : Goal} (hR : R.c (.agg [.lit (.bool (decide (n < 0))), .lit (.string (bytesOf n.natAbs))])) : Ok P 184 (loopHead P 184 0) ({ tm := mkTm 111 [(4, .ptr 0 0), (5, .cv (ci64 n)), (7, .cv (ci64 m))], hp := [some [.cv (.lit (.bool false)), .cv (cstr { data := #[] })]] }) R :=
 okT (.b 3 h1 (.r 5 (ROf_spec (n) s5_0) (.c (show 2 ≤ 2 from by decide) .nil))) (by kernel_rfl) hR
theorem DmS_p1 (a b : Int) (h1 : ((bytesOf b.natAbs).toList == []) = false) (h2 : decide ((↑(bytesOf b.natAbs).size : Int) ≤ 7) = true) (h3 : (a.tmod b != 0) = false) (s19_0 : a.natAbs < 256 ^ 7) (s34_0 : b.natAbs < 256 ^ 7) (s57_0 : (-9223372036854775808 : Int) ≤ i64.wrap (a.tdiv b) ∧ i64.wrap (a.tdiv b) ≤ 9223372036854775807) (s63_0 : (-9223372036854775808 : Int) ≤ i64.wrap (a - i64.wrap (i64.wrap (a.tdiv b) * b)) ∧ i64.wrap (a - i64.wrap (i64.wrap (a.tdiv b) * b)) ≤ 9223372036854775807) (o6 o7 : b ≠ 0) : PCall P 233 [intC a, intC b] (.tup [.agg [.lit (.bool (decide (i64.wrap (a.tdiv b) < 0))), .lit (.string (bytesOf (i64.wrap (a.tdiv b)).natAbs))], .agg [.lit (.bool (decide (i64.wrap (a - i64.wrap (i64.wrap (a.tdiv b) * b)) < 0))), .lit (.string (bytesOf (i64.wrap (a - i64.wrap (i64.wrap (a.tdiv b) * b))).natAbs))], .lit (.int .i64 0)]) :=
 pcallT (.r 6 (rValid_int (a)) (.r 10 (rValid_int (b)) (.b 17 h1 (.r 19 (RSmall_spec (a) s19_0) (.b 32 h2 (.r 34 (RSmall_spec (b) s34_0) (.c o6 (.c o7 (.b 48 h3 (.r 57 (ROf_spec (i64.wrap (a.tdiv b)) s57_0) (.r 63 (ROf_spec (i64.wrap (a - i64.wrap (i64.wrap (a.tdiv b) * b))) s63_0) (.c (show 2 ≤ 2 from by decide) (.c (show 2 ≤ 2 from by decide) .nil))))))))))))) (by kernel_rfl)
end Go.Fw
open Go IntKind
namespace Go.Fw
set_option maxRecDepth 100000
theorem OvS_p1 (a b : Int) (_h1 : ((bytesOf b.natAbs).toList == []) = false) (_h : PCall P 233 [intC a, intC b] (.tup [intC (a / b), intC (0 : Int), ci64 0])) (o0 : PCall P 233 [.agg [.lit (.bool (decide (a < 0))), .lit (.string (bytesOf a.natAbs))], .agg [.lit (.bool (decide (b < 0))), .lit (.string (bytesOf b.natAbs))]] (.tup [.agg [.lit (.bool (decide (a / b < 0))), .lit (.string (bytesOf (a / b).natAbs))], .agg [.lit (.bool false), .lit (.string (bytesOf 0))], .lit (.int .i64 0)])) : PCall P 185 [intC a, intC b] (.agg [.lit (.bool (decide (a / b < 0))), .lit (.string (bytesOf (a / b).natAbs))]) :=
 pcallT (.c o0 (.c (lq 2 2) (.c (lq 2 2) (.c (lq 2 2) (.o 5 (.r (.tup [intC (a / b), intC (0 : Int), ci64 0])) .nil))))) (by kernel_rfl)
end Go.Fw
open Go IntKind
namespace Go.Fw
set_option maxRecDepth 100000
theorem RPr4_p1 : PCall P 187 [.agg [.lit (.bool false), cstr (bytesOf 4)]] (.lit (.string (Utf8.encode (52 : Int) ++ { data := #[] }))) :=
 pcallT (.c (rValid_spec (false) (bytesOf 4)) (.c (rdigits4) (.c (bq 0 1) (.c (nz 10) (.c (bq 0 1) (.c (lq 1 1) (.c (nz 10) (.c (rtrim1) (.c (show BlksCv [some [.cv (.lit (.int .i64 0))], some [.cv (.lit (.int .i64 0))]] from (by simp [BlksCv, BlkCv])) (.c (show (1 : Int) ≤ 9223372036854775807 from by decide) (.o 3 (.r (.lit (.bool true))) (.o 14 (.f (.sl 0 0 1 1) [ci64 4]) (.o 56 (.m [2] (.sl 0 0 0 1) [some [.cv (ci64 0)]]) .nil))))))))))))) (by kernel_rfl)
theorem RPr1_p1 : PCall P 187 [.agg [.lit (.bool false), cstr (bytesOf 1)]] (.lit (.string (Utf8.encode (49 : Int) ++ { data := #[] }))) :=
 pcallT (.c (rValid_spec (false) (bytesOf 1)) (.c (rdigits1) (.c (bq 0 1) (.c (nz 10) (.c (bq 0 1) (.c (lq 1 1) (.c (nz 10) (.c (rtrim1) (.c (show BlksCv [some [.cv (.lit (.int .i64 0))], some [.cv (.lit (.int .i64 0))]] from (by simp [BlksCv, BlkCv])) (.c (show (1 : Int) ≤ 9223372036854775807 from by decide) (.o 3 (.r (.lit (.bool true))) (.o 14 (.f (.sl 0 0 1 1) [ci64 1]) (.o 56 (.m [2] (.sl 0 0 0 1) [some [.cv (ci64 0)]]) .nil))))))))))))) (by kernel_rfl)
end Go.Fw
open Go
namespace Go.Fw
set_option maxRecDepth 100000
theorem RGcd_in {R : Goal} (hn : R.n = 0) (g : Nat) (hR : R.c (intC (g : Int))) : ∀ (m a b : Nat), b ≤ m → a < 2 ^ 63 → b < 2 ^ 63 → Nat.gcd a b = g →
    Ok P 184 (loopHead P 184 0) ⟨mkTm 111 [(4, .ptr 0 0), (5, .cv (ci64 (a : Int))), (7, .cv (ci64 (b : Int)))], [some [.cv (.lit (.bool false)), .cv (cstr ⟨#[]⟩)]]⟩ R
 | m, a, 0, _, ha, _, hg => by
  rw [Nat.gcd_zero_right] at hg
  subst hg
  exact GcL_p2 _ _ rfl (by omega) hR
 | 0, a, b + 1, h, _, _, _ => by omega
 | m + 1, a, b + 1, hm, ha, hb, hg => by
  have hlt : a % (b + 1) < b + 1 := Nat.mod_lt a (Nat.succ_pos b)
  refine GcL_p1 _ _ (by simp; omega) (by omega) (by rw [hn]; rfl) ?_
  rw [Int.tmod_eq_emod_of_nonneg (by omega), show ((a : Int) % ((b + 1 : Nat) : Int)) = ((a % (b + 1) : Nat) : Int) by simp]
  refine RGcd_in hn g hR m (b + 1) (a % (b + 1)) (by omega) hb (by omega) ?_
  rw [← hg, Nat.gcd_comm a (b + 1), Nat.gcd_comm (b + 1) (a % (b + 1)), ← Nat.gcd_rec]
theorem RGcd_s (a b : Int) (ha : a.natAbs < 256 ^ 7) (hb : b.natAbs < 256 ^ 7) : PCall P 184 [intC a, intC b] (intC (Nat.gcd a.natAbs b.natAbs : Nat)) := by
 have h1 : (bytesOf a.natAbs).size ≤ 7 := size_le.2 ha
 have h2 : (bytesOf b.natAbs).size ≤ 7 := size_le.2 hb
 exact pcallQ_eq (GcS_p1 a b (decide_eq_true (by omega)) (decide_eq_true (by omega)) ha hb (RGcd_in rfl _ rfl _ _ _ (Nat.le_refl _) (Nat.lt_trans ha (by decide)) (Nat.lt_trans hb (by decide)) rfl))
theorem RDM_s (a b : Int) (ha : a.natAbs < 256 ^ 7) (hb : b.natAbs < 256 ^ 7) (hb0 : b ≠ 0) (hd : b ∣ a) : PCall P 233 [intC a, intC b] (.tup [intC (a / b), intC 0, ci64 0]) := by
 have h2 : (bytesOf b.natAbs).size ≤ 7 := size_le.2 hb
 have hq : a.tdiv b = a / b := Int.tdiv_eq_ediv_of_dvd hd
 have hl := K.natAbs_ediv_le a b hd
 have hw : IntKind.i64.wrap (a.tdiv b) = a / b := by rw [hq, w64 (by omega)]
 have hz : IntKind.i64.wrap (a - IntKind.i64.wrap (a / b * b)) = 0 := by rw [Int.ediv_mul_cancel hd, w64 (n := a) (by omega), w64 (by omega)]; omega
 have := DmS_p1 a b (by rw [toList_bytesOf]; simpa using hb0) (decide_eq_true (by omega)) (by rw [Int.tmod_eq_zero_of_dvd hd]; rfl) ha hb (by rw [hw]; omega) (by rw [hw, hz]; decide) hb0 hb0
 rw [hw, hz] at this
 exact this
theorem ROver_s (a b : Int) (ha : a.natAbs < 256 ^ 7) (hb : b.natAbs < 256 ^ 7) (hb0 : b ≠ 0) (hd : b ∣ a) : PCall P 185 [intC a, intC b] (intC (a / b)) :=
 OvS_p1 a b (by rw [toList_bytesOf]; simpa using hb0) (RDM_s a b ha hb hb0 hd) (RDM_s a b ha hb hb0 hd)
end Go.Fw
open Go
namespace Go.Fw
set_option maxRecDepth 100000
def v2F : Nat → Nat → Nat
 | 0, _ => 0
 | f + 1, n => if n % 2 = 1 then 0 else v2F f (n / 2) + 1
def v2 (n : Nat) : Nat := v2F n n
end Go.Fw
open Go
namespace Go.Fw
set_option maxRecDepth 100000
abbrev dS0 (n o m : Nat) (j F : Int) (ws xs qs : List Nat) : St := ⟨mkTm 238 [(8, .sl 0 0 1 1), (9, .sl 1 0 n 1), (10, .cv (ci64 (n : Int))), (11, .sl 2 0 o 1), (12, .sl 3 0 m 1), (13, .cv (ci64 j))], [some [.cv (ci64 F)], some (own (i64s ws)), some (own (i64s xs)), some (own (i64s qs))]⟩
end Go.Fw
open Go
namespace Go.Fw
set_option maxRecDepth 100000
theorem sgn_mul {a b : Int} : (if (!(decide (a < 0) == decide (b < 0))) = true then -((a.natAbs * b.natAbs : Nat) : Int) else ((a.natAbs * b.natAbs : Nat) : Int)) = a * b := by
 have e : (a * b).natAbs = a.natAbs * b.natAbs := Int.natAbs_mul a b
 rw [← e]
 rcases Int.lt_or_le a 0 with ha | ha <;> rcases Int.lt_or_le b 0 with hb | hb
 · have hp : 0 < a * b := Int.mul_pos_of_neg_of_neg ha hb
   generalize a * b = p at *
   rw [decide_eq_true ha, decide_eq_true hb, if_neg (by decide)]; omega
 · have hp : a * b ≤ 0 := Int.mul_nonpos_of_nonpos_of_nonneg (by omega) hb
   generalize a * b = p at *
   rw [decide_eq_true ha, decide_eq_false (by omega), if_pos (by decide)]; omega
 · have hp : a * b ≤ 0 := Int.mul_nonpos_of_nonneg_of_nonpos ha (by omega)
   generalize a * b = p at *
   rw [decide_eq_false (by omega), decide_eq_true hb, if_pos (by decide)]; omega
 · have hp : 0 ≤ a * b := Int.mul_nonneg ha hb
   generalize a * b = p at *
   rw [decide_eq_false (by omega), decide_eq_false (by omega), if_neg (by decide)]; omega
end Go.Fw
open Go
namespace Go.Fw
set_option maxRecDepth 100000
theorem valid_bytes {b : Bool} {s : ByteArray} (h : validB b s = true) : s = bytesOf (strVal s) := by
 have hs := strOf_lows s
 rw [← tz_lows]
 unfold validB at h
 by_cases h0 : s.size = 0
 · have : lows s = [] := List.length_eq_zero_iff.1 (by rw [lows_length]; exact h0)
   rw [this] at hs ⊢
   exact hs.symm
 · rw [if_neg h0, decide_eq_true_eq] at h
   have hne : lows s ≠ [] := by
    intro e
    have := lows_length s
    rw [e] at this
    exact h0 this.symm
   have hc := eq_concat_of_pos hne
   generalize (lows s).take ((lows s).length - 1) = l at hc
   generalize hx : (lows s).getD ((lows s).length - 1) 0 = x at hc
   have hf := strOf_first l x
   rw [← hc, hs] at hf
   rw [hf] at h
   have hx0 : x ≠ 0 := by rintro rfl; exact h rfl
   have : tz (lows s) = lows s := by rw [hc]; exact tz_concat hx0 l
   rw [this, hs]
theorem valid_raw {b : Bool} {s : ByteArray} (h : validB b s = true) : s = bytesOf (strVal s) ∧ b = decide (zOf b s < 0) ∧ (zOf b s).natAbs = strVal s := by
 refine ⟨valid_bytes h, ?_, ?_⟩
 · cases b
   · simp only [zOf, Bool.false_eq_true, if_false]
     exact (decide_eq_false (by omega)).symm
   · have hz : strVal s ≠ 0 := by
       intro e
       have h1 := valid_bytes h
       rw [e] at h1
       rw [h1] at h
       revert h
       decide
     simp only [zOf, if_true]
     exact (decide_eq_true (by omega)).symm
 · cases b <;> simp only [zOf, Bool.false_eq_true, if_false, if_true] <;> omega
theorem raw_int {b : Bool} {s : ByteArray} (h : validB b s = true) : CV.agg [.lit (.bool b), cstr s] = intC (zOf b s) := by
 obtain ⟨h1, h2, h3⟩ := valid_raw h
 unfold intC
 rw [← h2, h3, ← h1]
abbrev r5 (b0 b1 b2 b3 b4 : Bool) (s0 s1 s2 s3 s4 : ByteArray) : CV := .agg [.lit (.bool b0), cstr s0, .lit (.bool b1), cstr s1, .lit (.bool b2), cstr s2, .lit (.bool b3), cstr s3, .lit (.bool b4), cstr s4]
end Go.Fw
open Go IntKind
namespace Go.Fw
set_option maxRecDepth 100000
theorem fvr_p2 (b0 b1 b2 b3 b4 : Bool) (s0 s1 s2 s3 s4 : ByteArray) (h1 : (validB b0 s0) = true) (h2 : (validB b1 s1) = true) (h3 : (validB b2 s2) = true) (h4 : (validB b3 s3) = true) (h5 : (validB b4 s4) = false) : PCall P 154 [r5 b0 b1 b2 b3 b4 s0 s1 s2 s3 s4] (.lit (.bool false)) :=
 pcallT (.c (bq 0 4) (.c (lq 2 2) (.r 12 ((Valid_spec (b0) (s0)).eqB h1) (.c (bq 1 4) (.c (lq 2 2) (.r 24 ((Valid_spec (b1) (s1)).eqB h2) (.c (bq 2 4) (.c (lq 2 2) (.r 36 ((Valid_spec (b2) (s2)).eqB h3) (.c (bq 3 4) (.c (lq 2 2) (.r 48 ((Valid_spec (b3) (s3)).eqB h4) (.r 58 ((Valid_spec (b4) (s4)).eqB h5) .nil))))))))))))) (by kernel_rfl)
theorem fvr_p3 (b0 b1 b2 b3 b4 : Bool) (s0 s1 s2 s3 s4 : ByteArray) (h1 : (validB b0 s0) = true) (h2 : (validB b1 s1) = true) (h3 : (validB b2 s2) = true) (h4 : (validB b3 s3) = false) : PCall P 154 [r5 b0 b1 b2 b3 b4 s0 s1 s2 s3 s4] (.lit (.bool false)) :=
 pcallT (.c (bq 0 4) (.c (lq 2 2) (.r 12 ((Valid_spec (b0) (s0)).eqB h1) (.c (bq 1 4) (.c (lq 2 2) (.r 24 ((Valid_spec (b1) (s1)).eqB h2) (.c (bq 2 4) (.c (lq 2 2) (.r 36 ((Valid_spec (b2) (s2)).eqB h3) (.c (bq 3 4) (.c (lq 2 2) (.r 48 ((Valid_spec (b3) (s3)).eqB h4) .nil)))))))))))) (by kernel_rfl)
theorem fvr_p4 (b0 b1 b2 b3 b4 : Bool) (s0 s1 s2 s3 s4 : ByteArray) (h1 : (validB b0 s0) = true) (h2 : (validB b1 s1) = true) (h3 : (validB b2 s2) = false) : PCall P 154 [r5 b0 b1 b2 b3 b4 s0 s1 s2 s3 s4] (.lit (.bool false)) :=
 pcallT (.c (bq 0 4) (.c (lq 2 2) (.r 12 ((Valid_spec (b0) (s0)).eqB h1) (.c (bq 1 4) (.c (lq 2 2) (.r 24 ((Valid_spec (b1) (s1)).eqB h2) (.c (bq 2 4) (.c (lq 2 2) (.r 36 ((Valid_spec (b2) (s2)).eqB h3) .nil))))))))) (by kernel_rfl)
theorem fvr_p5 (b0 b1 b2 b3 b4 : Bool) (s0 s1 s2 s3 s4 : ByteArray) (h1 : (validB b0 s0) = true) (h2 : (validB b1 s1) = false) : PCall P 154 [r5 b0 b1 b2 b3 b4 s0 s1 s2 s3 s4] (.lit (.bool false)) :=
 pcallT (.c (bq 0 4) (.c (lq 2 2) (.r 12 ((Valid_spec (b0) (s0)).eqB h1) (.c (bq 1 4) (.c (lq 2 2) (.r 24 ((Valid_spec (b1) (s1)).eqB h2) .nil)))))) (by kernel_rfl)
theorem fvr_p6 (b0 b1 b2 b3 b4 : Bool) (s0 s1 s2 s3 s4 : ByteArray) (h1 : (validB b0 s0) = false) : PCall P 154 [r5 b0 b1 b2 b3 b4 s0 s1 s2 s3 s4] (.lit (.bool false)) :=
 pcallT (.c (bq 0 4) (.c (lq 2 2) (.r 12 ((Valid_spec (b0) (s0)).eqB h1) .nil))) (by kernel_rfl)
end Go.Fw
open Go IntKind
namespace Go.Fw
set_option maxRecDepth 100000
theorem overF_p1 (a b : Int) (s5_0 : SmlZ a) (s5_1 : SmlZ b) (s5_2 : b ≠ 0) (s5_3 : b ∣ a) : PCall P 244 [intC a, intC b] (.agg [.lit (.bool (decide (a / b < 0))), .lit (.string (bytesOf (a / b).natAbs))]) :=
 pcallT (.r 5 (DM_exact (a) (b) s5_0 s5_1 s5_2 s5_3) (.c (lq 2 2) (.c (lq 2 2) (.c (lq 2 2) .nil)))) (by kernel_rfl)
end Go.Fw
open Go
namespace Go.Fw
theorem over_spec (a b : Int) (ha : SmlZ a) (hb : SmlZ b) (hb0 : b ≠ 0) (hd : b ∣ a) : PCall P 244 [intC a, intC b] (intC (a / b)) := overF_p1 a b ha hb hb0 hd
end Go.Fw
open Go IntKind
namespace Go.Fw
set_option maxRecDepth 100000
theorem low_p2 (a b c d e : Int) (h1 : (decide (e.sign < 0)) = true) (h2 : (decide (-(↑(gcd5 a b c d e) : Int) < 0) == false && (bytesOf (-(↑(gcd5 a b c d e) : Int)).natAbs == bytesOf 1 && true)) = false) (s5_0 : SmlZ a) (s5_1 : SmlZ b) (s5_2 : SmlZ c) (s5_3 : SmlZ d) (s5_4 : SmlZ e) (s16_0 : (-9223372036854775808 : Int) ≤ 1 ∧ (1 : Int) ≤ 9223372036854775807) (s30_0 : SmlZ a) (s30_1 : SmlZ (-(↑(gcd5 a b c d e) : Int))) (s30_2 : -(↑(gcd5 a b c d e) : Int) ≠ 0) (s30_3 : -(↑(gcd5 a b c d e) : Int) ∣ a) (s45_0 : SmlZ b) (s45_1 : SmlZ (-(↑(gcd5 a b c d e) : Int))) (s45_2 : -(↑(gcd5 a b c d e) : Int) ≠ 0) (s45_3 : -(↑(gcd5 a b c d e) : Int) ∣ b) (s60_0 : SmlZ c) (s60_1 : SmlZ (-(↑(gcd5 a b c d e) : Int))) (s60_2 : -(↑(gcd5 a b c d e) : Int) ≠ 0) (s60_3 : -(↑(gcd5 a b c d e) : Int) ∣ c) (s75_0 : SmlZ d) (s75_1 : SmlZ (-(↑(gcd5 a b c d e) : Int))) (s75_2 : -(↑(gcd5 a b c d e) : Int) ≠ 0) (s75_3 : -(↑(gcd5 a b c d e) : Int) ∣ d) (s86_0 : SmlZ e) (s86_1 : SmlZ (-(↑(gcd5 a b c d e) : Int))) (s86_2 : -(↑(gcd5 a b c d e) : Int) ≠ 0) (s86_3 : -(↑(gcd5 a b c d e) : Int) ∣ e) : PCall P 204 [c4C a b c d, intC e] (.agg [.lit (.bool (decide (a / -(↑(gcd5 a b c d e) : Int) < 0))), .lit (.string (bytesOf (a / -(↑(gcd5 a b c d e) : Int)).natAbs)), .lit (.bool (decide (b / -(↑(gcd5 a b c d e) : Int) < 0))), .lit (.string (bytesOf (b / -(↑(gcd5 a b c d e) : Int)).natAbs)), .lit (.bool (decide (c / -(↑(gcd5 a b c d e) : Int) < 0))), .lit (.string (bytesOf (c / -(↑(gcd5 a b c d e) : Int)).natAbs)), .lit (.bool (decide (d / -(↑(gcd5 a b c d e) : Int) < 0))), .lit (.string (bytesOf (d / -(↑(gcd5 a b c d e) : Int)).natAbs)), .lit (.bool (decide (e / -(↑(gcd5 a b c d e) : Int) < 0))), .lit (.string (bytesOf (e / -(↑(gcd5 a b c d e) : Int)).natAbs))]) :=
 pcallT (.r 5 (common_spec (a) (b) (c) (d) (e) s5_0 s5_1 s5_2 s5_3 s5_4) (.c (lq 2 2) (.r 9 (Sign_spec (e)) (.b 11 h1 (.r 13 (Neg_spec ((↑(gcd5 a b c d e) : Int))) (.c (lq 2 2) (.r 16 (Of_spec ((1 : Int)) s16_0) (.b 18 h2 (.c (bq 0 4) (.r 30 (over_spec (a) (-(↑(gcd5 a b c d e) : Int)) s30_0 s30_1 s30_2 s30_3) (.c (bq 0 4) (.c (lq 2 8) (.c (bq 1 4) (.r 45 (over_spec (b) (-(↑(gcd5 a b c d e) : Int)) s45_0 s45_1 s45_2 s45_3) (.c (bq 1 4) (.c (lq 4 8) (.c (bq 2 4) (.r 60 (over_spec (c) (-(↑(gcd5 a b c d e) : Int)) s60_0 s60_1 s60_2 s60_3) (.c (bq 2 4) (.c (lq 6 8) (.c (bq 3 4) (.r 75 (over_spec (d) (-(↑(gcd5 a b c d e) : Int)) s75_0 s75_1 s75_2 s75_3) (.c (bq 3 4) (.c (lq 8 8) (.r 86 (over_spec (e) (-(↑(gcd5 a b c d e) : Int)) s86_0 s86_1 s86_2 s86_3) (.c (lq 10 10) .nil)))))))))))))))))))))))))) (by kernel_rfl)
theorem low_p3 (a b c d e : Int) (h1 : (decide (e.sign < 0)) = false) (h2 : (decide ((↑(gcd5 a b c d e) : Int) < 0) == false && (bytesOf (↑(gcd5 a b c d e) : Int).natAbs == bytesOf 1 && true)) = true) (s5_0 : SmlZ a) (s5_1 : SmlZ b) (s5_2 : SmlZ c) (s5_3 : SmlZ d) (s5_4 : SmlZ e) (s13_0 : (-9223372036854775808 : Int) ≤ 1 ∧ (1 : Int) ≤ 9223372036854775807) : PCall P 204 [c4C a b c d, intC e] (.agg [.lit (.bool (decide (a < 0))), .lit (.string (bytesOf a.natAbs)), .lit (.bool (decide (b < 0))), .lit (.string (bytesOf b.natAbs)), .lit (.bool (decide (c < 0))), .lit (.string (bytesOf c.natAbs)), .lit (.bool (decide (d < 0))), .lit (.string (bytesOf d.natAbs)), .lit (.bool (decide (e < 0))), .lit (.string (bytesOf e.natAbs))]) :=
 pcallT (.r 5 (common_spec (a) (b) (c) (d) (e) s5_0 s5_1 s5_2 s5_3 s5_4) (.c (lq 2 2) (.r 9 (Sign_spec (e)) (.b 11 h1 (.r 13 (Of_spec ((1 : Int)) s13_0) (.b 15 h2 (.c (lq 10 10) .nil))))))) (by kernel_rfl)
theorem low_p4 (a b c d e : Int) (h1 : (decide (e.sign < 0)) = false) (h2 : (decide ((↑(gcd5 a b c d e) : Int) < 0) == false && (bytesOf (↑(gcd5 a b c d e) : Int).natAbs == bytesOf 1 && true)) = false) (s5_0 : SmlZ a) (s5_1 : SmlZ b) (s5_2 : SmlZ c) (s5_3 : SmlZ d) (s5_4 : SmlZ e) (s13_0 : (-9223372036854775808 : Int) ≤ 1 ∧ (1 : Int) ≤ 9223372036854775807) (s27_0 : SmlZ a) (s27_1 : SmlZ (↑(gcd5 a b c d e) : Int)) (s27_2 : (↑(gcd5 a b c d e) : Int) ≠ 0) (s27_3 : (↑(gcd5 a b c d e) : Int) ∣ a) (s42_0 : SmlZ b) (s42_1 : SmlZ (↑(gcd5 a b c d e) : Int)) (s42_2 : (↑(gcd5 a b c d e) : Int) ≠ 0) (s42_3 : (↑(gcd5 a b c d e) : Int) ∣ b) (s57_0 : SmlZ c) (s57_1 : SmlZ (↑(gcd5 a b c d e) : Int)) (s57_2 : (↑(gcd5 a b c d e) : Int) ≠ 0) (s57_3 : (↑(gcd5 a b c d e) : Int) ∣ c) (s72_0 : SmlZ d) (s72_1 : SmlZ (↑(gcd5 a b c d e) : Int)) (s72_2 : (↑(gcd5 a b c d e) : Int) ≠ 0) (s72_3 : (↑(gcd5 a b c d e) : Int) ∣ d) (s83_0 : SmlZ e) (s83_1 : SmlZ (↑(gcd5 a b c d e) : Int)) (s83_2 : (↑(gcd5 a b c d e) : Int) ≠ 0) (s83_3 : (↑(gcd5 a b c d e) : Int) ∣ e) : PCall P 204 [c4C a b c d, intC e] (.agg [.lit (.bool (decide (a / (↑(gcd5 a b c d e) : Int) < 0))), .lit (.string (bytesOf (a / (↑(gcd5 a b c d e) : Int)).natAbs)), .lit (.bool (decide (b / (↑(gcd5 a b c d e) : Int) < 0))), .lit (.string (bytesOf (b / (↑(gcd5 a b c d e) : Int)).natAbs)), .lit (.bool (decide (c / (↑(gcd5 a b c d e) : Int) < 0))), .lit (.string (bytesOf (c / (↑(gcd5 a b c d e) : Int)).natAbs)), .lit (.bool (decide (d / (↑(gcd5 a b c d e) : Int) < 0))), .lit (.string (bytesOf (d / (↑(gcd5 a b c d e) : Int)).natAbs)), .lit (.bool (decide (e / (↑(gcd5 a b c d e) : Int) < 0))), .lit (.string (bytesOf (e / (↑(gcd5 a b c d e) : Int)).natAbs))]) :=
 pcallT (.r 5 (common_spec (a) (b) (c) (d) (e) s5_0 s5_1 s5_2 s5_3 s5_4) (.c (lq 2 2) (.r 9 (Sign_spec (e)) (.b 11 h1 (.r 13 (Of_spec ((1 : Int)) s13_0) (.b 15 h2 (.c (bq 0 4) (.r 27 (over_spec (a) ((↑(gcd5 a b c d e) : Int)) s27_0 s27_1 s27_2 s27_3) (.c (bq 0 4) (.c (lq 2 8) (.c (bq 1 4) (.r 42 (over_spec (b) ((↑(gcd5 a b c d e) : Int)) s42_0 s42_1 s42_2 s42_3) (.c (bq 1 4) (.c (lq 4 8) (.c (bq 2 4) (.r 57 (over_spec (c) ((↑(gcd5 a b c d e) : Int)) s57_0 s57_1 s57_2 s57_3) (.c (bq 2 4) (.c (lq 6 8) (.c (bq 3 4) (.r 72 (over_spec (d) ((↑(gcd5 a b c d e) : Int)) s72_0 s72_1 s72_2 s72_3) (.c (bq 3 4) (.c (lq 8 8) (.r 83 (over_spec (e) ((↑(gcd5 a b c d e) : Int)) s83_0 s83_1 s83_2 s83_3) (.c (lq 10 10) .nil)))))))))))))))))))))))) (by kernel_rfl)
end Go.Fw
open Go
namespace Go.Fw
set_option maxRecDepth 100000
theorem ba_beq (x y : ByteArray) : (x == y) = decide (x = y) := by
 cases x with | mk a => cases y with | mk b =>
 have : ((⟨a⟩ : ByteArray) == ⟨b⟩) = (a == b) := rfl
 rw [this]
 by_cases h : a = b
 · subst h; simp
 · simp [h]
theorem bytes_beq (m n : Nat) : (bytesOf m == bytesOf n) = decide (m = n) := by
 rw [ba_beq]
 exact decide_eq_decide.2 ⟨bytesOf_inj, fun h => by rw [h]⟩
theorem SmlZ.neg {a : Int} (h : SmlZ a) : SmlZ (-a) := by simpa [SmlZ] using h
theorem low_spec (a b c d e : Int) (h0 : SmlZ a) (h1 : SmlZ b) (h2 : SmlZ c) (h3 : SmlZ d) (h4 : SmlZ e) (he : e ≠ 0) : PCall P 204 [c4C a b c d, intC e] (numC (K.of a b c d e)) := by
 have hg := gcd5_pos (a := a) (b := b) (c := c) (d := d) he
 have hgs : SmlZ (gcd5 a b c d e : Nat) := by
  have g1 : Sml (Nat.gcd e.natAbs a.natAbs) := Sml.gcd h4 h0
  have g2 := Sml.gcd (Sml.gcd (Sml.gcd g1 h1) h2) h3
  simpa [SmlZ, gcd5] using g2
 obtain ⟨d0, d1, d2, d3, d4⟩ := K.den_dvd a b c d e
 have hone : (-9223372036854775808 : Int) ≤ 1 ∧ (1 : Int) ≤ 9223372036854775807 := by decide
 by_cases hn : e < 0
 · have hden : K.den a b c d e = -(gcd5 a b c d e : Int) := by unfold K.den; rw [if_pos hn]
   rw [hden] at d0 d1 d2 d3 d4
   have hs : (decide (e.sign < 0)) = true := by rw [Int.sign_eq_neg_one_of_neg hn]; rfl
   have hne : -(gcd5 a b c d e : Int) ≠ 0 := by omega
   have ht : (decide (-(gcd5 a b c d e : Int) < 0) == false && (bytesOf (-(gcd5 a b c d e : Int)).natAbs == bytesOf 1 && true)) = false := by
    rw [decide_eq_true (by omega)]; rfl
   refine (low_p2 a b c d e hs ht h0 h1 h2 h3 h4 hone h0 hgs.neg hne d0 h1 hgs.neg hne d1 h2 hgs.neg hne d2 h3 hgs.neg hne d3 h4 hgs.neg hne d4).eq ?_
   unfold K.of
   simp only [dif_neg he, hden]
   rfl
 · have hden : K.den a b c d e = (gcd5 a b c d e : Int) := by unfold K.den; rw [if_neg hn]
   rw [hden] at d0 d1 d2 d3 d4
   have hs : (decide (e.sign < 0)) = false := by rw [Int.sign_eq_one_of_pos (by omega)]; rfl
   have hne : (gcd5 a b c d e : Int) ≠ 0 := by omega
   have ht : (decide ((gcd5 a b c d e : Int) < 0) == false && (bytesOf (gcd5 a b c d e : Int).natAbs == bytesOf 1 && true)) = decide (gcd5 a b c d e = 1) := by
    rw [decide_eq_false (by omega), Int.natAbs_natCast, bytes_beq]; simp
   by_cases h1' : gcd5 a b c d e = 1
   · refine (low_p3 a b c d e hs (by rw [ht]; simpa using h1') h0 h1 h2 h3 h4 hone).eq ?_
     unfold K.of
     simp only [dif_neg he, hden, h1']
     exact n5C_eq (by simp) (by simp) (by simp) (by simp) (by simp)
   · refine (low_p4 a b c d e hs (by rw [ht]; simpa using h1') h0 h1 h2 h3 h4 hone h0 hgs hne d0 h1 hgs hne d1 h2 hgs hne d2 h3 hgs hne d3 h4 hgs hne d4).eq ?_
     unfold K.of
     simp only [dif_neg he, hden]
     rfl
end Go.Fw
namespace Go.Fw
end Go.Fw
open Go IntKind
namespace Go.Fw
set_option maxRecDepth 100000
theorem FValid_p1 (a b c d e : Int) (h1 : decide (e.sign > 0) = true) (s70_0 : SmlZ a) (s70_1 : SmlZ b) (s70_2 : SmlZ c) (s70_3 : SmlZ d) (s70_4 : SmlZ e) (s71_0 : (-9223372036854775808 : Int) ≤ 1 ∧ (1 : Int) ≤ 9223372036854775807) : PCall P 154 [n5C a b c d e] (.lit (.bool (decide ((↑(gcd5 a b c d e) : Int) < 0) == false && (bytesOf (↑(gcd5 a b c d e) : Int).natAbs == bytesOf 1 && true)))) :=
 pcallT (.c (bq 0 4) (.c (lq 2 2) (.r 12 (Valid_int (a)) (.c (bq 1 4) (.c (lq 2 2) (.r 24 (Valid_int (b)) (.c (bq 2 4) (.c (lq 2 2) (.r 36 (Valid_int (c)) (.c (bq 3 4) (.c (lq 2 2) (.r 48 (Valid_int (d)) (.r 58 (Valid_int (e)) (.r 62 (Sign_spec (e)) (.b 65 h1 (.r 70 (common_spec (a) (b) (c) (d) (e) s70_0 s70_1 s70_2 s70_3 s70_4) (.r 71 (Of_spec ((1 : Int)) s71_0) .nil))))))))))))))))) (by kernel_rfl)
theorem FValid_p2 (a b c d e : Int) (h1 : decide (e.sign > 0) = false) : PCall P 154 [n5C a b c d e] (.lit (.bool false)) :=
 pcallT (.c (bq 0 4) (.c (lq 2 2) (.r 12 (Valid_int (a)) (.c (bq 1 4) (.c (lq 2 2) (.r 24 (Valid_int (b)) (.c (bq 2 4) (.c (lq 2 2) (.r 36 (Valid_int (c)) (.c (bq 3 4) (.c (lq 2 2) (.r 48 (Valid_int (d)) (.r 58 (Valid_int (e)) (.r 62 (Sign_spec (e)) (.b 65 h1 .nil))))))))))))))) (by kernel_rfl)
theorem FRoot_p1 (k : Int) (h1 : (k == 2) = true) (s1_0 : (-9223372036854775808 : Int) ≤ 0 ∧ (0 : Int) ≤ 9223372036854775807) (s8_0 : (-9223372036854775808 : Int) ≤ 1 ∧ (1 : Int) ≤ 9223372036854775807) : PCall P 235 [.lit (.int .i64 k)] (.agg [.lit (.bool false), .lit (.string (bytesOf 0)), .lit (.bool false), .lit (.string (bytesOf 1)), .lit (.bool false), .lit (.string (bytesOf 0)), .lit (.bool false), .lit (.string (bytesOf 0)), .lit (.bool false), .lit (.string (bytesOf 1))]) :=
 pcallT (.r 1 (FOf_spec ((0 : Int)) s1_0) (.c (lq 10 10) (.b 7 h1 (.r 8 (Of_spec ((1 : Int)) s8_0) (.c (bq 1 4) (.c (lq 4 10) (.c (lq 10 10) .nil))))))) (by kernel_rfl)
theorem FRoot_p2 (k : Int) (h1 : (k == 2) = false) (h2 : (k == 3) = true) (s1_0 : (-9223372036854775808 : Int) ≤ 0 ∧ (0 : Int) ≤ 9223372036854775807) (s11_0 : (-9223372036854775808 : Int) ≤ 1 ∧ (1 : Int) ≤ 9223372036854775807) : PCall P 235 [.lit (.int .i64 k)] (.agg [.lit (.bool false), .lit (.string (bytesOf 0)), .lit (.bool false), .lit (.string (bytesOf 0)), .lit (.bool false), .lit (.string (bytesOf 1)), .lit (.bool false), .lit (.string (bytesOf 0)), .lit (.bool false), .lit (.string (bytesOf 1))]) :=
 pcallT (.r 1 (FOf_spec ((0 : Int)) s1_0) (.c (lq 10 10) (.b 7 h1 (.b 10 h2 (.r 11 (Of_spec ((1 : Int)) s11_0) (.c (bq 2 4) (.c (lq 6 10) (.c (lq 10 10) .nil)))))))) (by kernel_rfl)
theorem FRoot_p3 (k : Int) (h1 : (k == 2) = false) (h2 : (k == 3) = false) (h3 : (k == 6) = true) (s1_0 : (-9223372036854775808 : Int) ≤ 0 ∧ (0 : Int) ≤ 9223372036854775807) (s14_0 : (-9223372036854775808 : Int) ≤ 1 ∧ (1 : Int) ≤ 9223372036854775807) : PCall P 235 [.lit (.int .i64 k)] (.agg [.lit (.bool false), .lit (.string (bytesOf 0)), .lit (.bool false), .lit (.string (bytesOf 0)), .lit (.bool false), .lit (.string (bytesOf 0)), .lit (.bool false), .lit (.string (bytesOf 1)), .lit (.bool false), .lit (.string (bytesOf 1))]) :=
 pcallT (.r 1 (FOf_spec ((0 : Int)) s1_0) (.c (lq 10 10) (.b 7 h1 (.b 10 h2 (.b 13 h3 (.r 14 (Of_spec ((1 : Int)) s14_0) (.c (bq 3 4) (.c (lq 8 10) (.c (lq 10 10) .nil))))))))) (by kernel_rfl)
theorem FConj1_p1 (a b c d e : Int) : PCall P 211 [n5C a b c d e, .lit (.int .i64 1)] (.agg [.lit (.bool (decide (a < 0))), .lit (.string (bytesOf a.natAbs)), .lit (.bool (decide (-b < 0))), .lit (.string (bytesOf (-b).natAbs)), .lit (.bool (decide (c < 0))), .lit (.string (bytesOf c.natAbs)), .lit (.bool (decide (-d < 0))), .lit (.string (bytesOf (-d).natAbs)), .lit (.bool (decide (e < 0))), .lit (.string (bytesOf e.natAbs))]) :=
 pcallT (.c (bq 1 4) (.r 30 (Neg_spec (b)) (.c (bq 1 4) (.c (lq 4 10) (.c (bq 3 4) (.r 63 (Neg_spec (d)) (.c (bq 3 4) (.c (lq 8 10) (.c (lq 10 10) .nil))))))))) (by kernel_rfl)
theorem FConj2_p1 (a b c d e : Int) : PCall P 211 [n5C a b c d e, .lit (.int .i64 2)] (.agg [.lit (.bool (decide (a < 0))), .lit (.string (bytesOf a.natAbs)), .lit (.bool (decide (b < 0))), .lit (.string (bytesOf b.natAbs)), .lit (.bool (decide (-c < 0))), .lit (.string (bytesOf (-c).natAbs)), .lit (.bool (decide (-d < 0))), .lit (.string (bytesOf (-d).natAbs)), .lit (.bool (decide (e < 0))), .lit (.string (bytesOf e.natAbs))]) :=
 pcallT (.c (bq 2 4) (.r 42 (Neg_spec (c)) (.c (bq 2 4) (.c (lq 6 10) (.c (bq 3 4) (.r 63 (Neg_spec (d)) (.c (bq 3 4) (.c (lq 8 10) (.c (lq 10 10) .nil))))))))) (by kernel_rfl)
end Go.Fw
