/- A part of the proof that the law returns true for every input: an executor for the model's code, and what functions of the program compute. -/
import Derived.Test.YtcafjpldfnegiaaGreatDoorB11
import Derived.Test.YtcafjpldfnegiaaGreatDoorB15
import Derived.Test.YtcafjpldfnegiaaGreatDoorB18
import Derived.Test.YtcafjpldfnegiaaGreatDoorB19
import Derived.KernelRfl
open Go
namespace Go.Fw
set_option maxRecDepth 100000
theorem b24_digit (W i : Nat) : (W / B24 ^ (i / 3) % B24) / 2 ^ (8 * (i % 3)) % 256 = W / 256 ^ i % 256 := by
 have e : (256 : Nat) ^ i = B24 ^ (i / 3) * 2 ^ (8 * (i % 3)) := by
  conv => lhs; rw [← Nat.div_add_mod i 3]
  rw [Nat.pow_add, Nat.pow_mul, show (256 : Nat) ^ 3 = B24 from rfl, show (256 : Nat) = 2 ^ 8 from rfl, ← Nat.pow_mul]
 rw [e, ← Nat.div_div_eq_div_mul]
 generalize W / B24 ^ (i / 3) = X
 have h3 : i % 3 < 3 := Nat.mod_lt _ (by decide)
 have : i % 3 = 0 ∨ i % 3 = 1 ∨ i % 3 = 2 := by omega
 rcases this with h | h | h <;> rw [h] <;> simp only [B24] <;> omega
def bsAt (ds : List Nat) (m i : Nat) : List Nat := List.replicate (m - i) 0 ++ (ds.take i).reverse
theorem bsAt_length {ds : List Nat} {m i : Nat} (h : ds.length = m) (hi : i ≤ m) : (bsAt ds m i).length = m := by simp [bsAt]; omega
theorem bsAt_set {ds : List Nat} {m i : Nat} (h : ds.length = m) (hi : i < m) : (bsAt ds m i).set (m - 1 - i) (ds.getD i 0) = bsAt ds m (i + 1) := by
 unfold bsAt
 rw [show m - i = (m - 1 - i) + 1 by omega, List.replicate_succ', List.append_assoc, List.set_append_right _ _ (by simp), show m - (i + 1) = m - 1 - i by omega]
 simp only [List.length_replicate, Nat.sub_self, List.cons_append, List.nil_append, List.set_cons_zero]
 congr 1
 rw [List.take_add_one, List.getElem?_eq_getElem (by omega), Option.toList_some, List.reverse_append]
 simp [List.getD_eq_getElem?_getD, List.getElem?_eq_getElem (show i < ds.length by omega)]
theorem RByM_z (j : Nat) (bs : List Nat) (h2 : ((bs.getD (j + 0) 0 : Int) == 0) = true) (o2 : (own (u8s bs))[j + 0]? = some (.cv (.lit (.int .u8 (bs.getD (j + 0) 0 : Nat))))) {R : Goal} (hn : lentOk R.n [] = true)
    (hR : Ok P 237 (loopHead P 237 1) ⟨mkTm 45 [(3, .cv (.lst 0 []))], []⟩ R) : Ok P 237 (loopHead P 237 1) ⟨mkTm 45 [(3, .sl 0 j 1 1)], [some (own (u8s bs))]⟩ R :=
 okS (keep := [3]) (σ := []) (ors := [(4, Or.b true), (7, Or.e (MV.cv (CV.lit (Value.int IntKind.u8 (bs.getD (j + 0) 0 : Nat))))), (10, Or.b true), (12, .r (.lst 0 [])), (14, Or.stop)]) (by kernel_rfl) rfl
  (.cons (show decide ((1 : Int) > 0) = true by decide) (.cons (show (0 : Int) ≤ 0 ∧ (0 : Int) < 1 by decide) (.cons o2 (.cons (show 1 = 1 from rfl) (.cons h2 (.cons (show (0 : Int) ≤ 1 ∧ (1 : Int) = 1 ∧ (1 : Int) ≤ 1 by decide) .nil)))))) hn hR
theorem RByZ {R : Goal} (hR : R.c (cstr ⟨#[]⟩)) : Ok P 237 (loopHead P 237 1) ⟨mkTm 45 [(3, .cv (.lst 0 []))], []⟩ R :=
 okR (ors := [(12, .r (.lit (.string ⟨#[]⟩)))]) (by kernel_rfl) (.cons (show ([] : List CV) = (⟨#[]⟩ : ByteArray).data.toList.map (fun b => CV.lit (.int .u8 (b.toNat : Nat))) from rfl) (.cons (show (⟨#[]⟩ : ByteArray).size = 0 from rfl) .nil)) hR
theorem rbytes_tail {R : Goal} (hn : R.n = 0) (ds : List Nat) (hd : Dig 256 ds) (_hl : ds.length < 2 ^ 50) (hR : R.c (cstr (strOf (tz ds)))) : ∀ (k j : Nat), j + k = ds.length → tz (ds.take k) = tz ds →
    Ok P 237 (loopHead P 237 1) ⟨mkTm 45 [(3, .sl 0 j k 1)], [some (own (u8s ds.reverse))]⟩ R := by
 have hfin : ∀ k j, j + k = ds.length → List.take k (List.drop j ds.reverse) = (ds.take k).reverse := by
  intro k j hjk
  rw [List.reverse_take, List.take_of_length_le (by simp; omega)]
  congr 1; omega
 have hcell : ∀ k j, List.take k (List.drop j (own (u8s ds.reverse))) = List.map (fun b => litI .u8 (b.toNat : Nat)) (List.map UInt8.ofNat (List.take k (List.drop j ds.reverse))) := by
  intro k j
  have hdd : ∀ b ∈ List.take k (List.drop j ds.reverse), b < 256 := fun b hb => hd b (by have := List.mem_of_mem_drop (List.mem_of_mem_take hb); simpa using this)
  have := strHi_cells hdd
  simp only [strHi] at this
  rw [show List.take k (List.drop j (own (u8s ds.reverse))) = own (u8s (List.take k (List.drop j ds.reverse))) by simp [own, u8s, List.map_take, List.map_drop], this]
 intro k
 induction k with
 | zero =>
  intro j hj ht
  refine RByM_p3 j 0 _ (by decide) (hcell 0 j) (by rw [strHi_size]; simp) ?_
  simp only [List.take_zero] at ht ⊢
  rw [← ht] at hR
  exact hR
 | succ k ih =>
  intro j hj ht
  have hg : ds.reverse.getD (j + 0) 0 = ds.getD k 0 := by
   rw [List.getD_eq_getElem?_getD, List.getD_eq_getElem?_getD, List.getElem?_reverse (by omega)]
   congr 2; omega
  have hcell1 : (own (u8s ds.reverse))[j + 0]? = some (.cv (.lit (.int .u8 (ds.reverse.getD (j + 0) 0 : Nat)))) := by
   have := u8s_get (xs := ds.reverse) (i := j) (by simp; omega)
   simp only [own, List.getElem?_map, Nat.add_zero, this]; rfl
  have htk : ds.take (k + 1) = ds.take k ++ [ds.getD k 0] := by
   rw [List.take_add_one, List.getElem?_eq_getElem (by omega), List.getD_eq_getElem?_getD, List.getElem?_eq_getElem (by omega)]; rfl
  by_cases h0 : ds.getD k 0 = 0
  · by_cases hk0 : k = 0
    · subst hk0
      refine RByM_z j _ (by rw [hg, h0]; rfl) hcell1 (by rw [hn]; rfl) ?_
      refine RByZ ?_
      have e : tz ds = [] := by rw [← ht, htk, h0, tz_concat_zero]; rfl
      rw [e] at hR
      exact hR
    refine RByM_p1 j (k + 1) _ (by simp) (by rw [hg, h0]; rfl) (by omega) hcell1 (by omega) (CvL.map_cv _) (by rw [hn]; rfl) ?_
    rw [show ((k + 1 : Nat) : Int) - 1 = (k : Int) by omega, Int.toNat_natCast]
    exact ih (j + 1) (by omega) (by rw [← ht, htk, h0, tz_concat_zero])
  · refine RByM_p2 j (k + 1) _ (by simp) (by rw [hg]; simpa using h0) (by omega) hcell1 (hcell _ _) (by rw [strHi_size]; simp; omega) ?_
    rw [hfin _ _ hj, strHi_eq, List.reverse_reverse]
    rw [← ht, htk, tz_concat h0, ← htk] at hR
    exact hR
end Go.Fw
namespace Go.Fw
theorem rbyte_eq (xs : List Nat) (hd : Dig B24 xs) (i : Nat) (hi : i / 3 < xs.length) (hb : i < 2 ^ 50) :
    IntKind.u8.wrap (((xs.getD ((IntKind.i64.wrap ((i : Int).tdiv 3)).toNat * 1) 0 : Nat) : Int).fdiv (2 ^ min (IntKind.i64.wrap (8 * (i : Int).tmod 3)).toNat 64)) = ((val B24 xs / 256 ^ i % 256 : Nat) : Int) := by
 have e1 : IntKind.i64.wrap ((i : Int).tdiv 3) = ((i / 3 : Nat) : Int) := by
  rw [Int.tdiv_eq_ediv_of_nonneg (by omega), w64 (by omega)]; omega
 have e2 : IntKind.i64.wrap (8 * (i : Int).tmod 3) = ((8 * (i % 3) : Nat) : Int) := by
  rw [Int.tmod_eq_emod_of_nonneg (by omega), w64 (by omega)]; omega
 rw [e1, e2, Int.toNat_natCast, Int.toNat_natCast, Nat.mul_one, Nat.min_eq_left (by omega), wr8]
 have e3 : xs.getD (i / 3) 0 = val B24 xs / B24 ^ (i / 3) % B24 := by
  conv => lhs; rw [← digN_of_val (by decide) xs hd]
  rw [digN_get _ _ _ _ hi]
 rw [e3, ← b24_digit]
 generalize val B24 xs / B24 ^ (i / 3) % B24 = X
 rw [Int.fdiv_eq_ediv_of_nonneg _ (by exact_mod_cast Nat.zero_le _)]
 rw [Int.natCast_emod, Int.natCast_ediv, Int.natCast_pow]
 rfl
end Go.Fw
namespace Go.Fw
theorem rbytes_fill {R : Goal} (hn : R.n = 0) (xs : List Nat) (hd : Dig B24 xs) (hl : xs.length < 2 ^ 40) (hR : R.c (cstr (bytesOf (val B24 xs)))) : ∀ (d i : Nat), i + d = 3 * xs.length →
    Ok P 237 (loopHead P 237 0) ⟨mkTm 45 [(0, .cv (.lst xs.length (i64s xs))), (3, .sl 0 0 (3 * xs.length) 1), (4, .cv (.lit (.int .i64 i)))], [some (own (u8s (bsAt (digN 256 (3 * xs.length) (val B24 xs)) (3 * xs.length) i)))]⟩ R := by
 have hdl : (digN 256 (3 * xs.length) (val B24 xs)).length = 3 * xs.length := digN_length _ _ _
 have hdd : Dig 256 (digN 256 (3 * xs.length) (val B24 xs)) := digN_dig (by decide) _ _
 have hlt : val B24 xs < 256 ^ (3 * xs.length) := by
  have := val_lt (b := B24) (by decide) xs hd
  rwa [show B24 = 256 ^ 3 from rfl, ← Nat.pow_mul] at this
 intro d
 induction d with
 | zero =>
  intro i hi
  refine RByL_p2 xs.length (3 * xs.length) i xs _ (decide_eq_false (by omega)) (CvL.map_cv _) (by rw [hn]; rfl) ?_
  have e : bsAt (digN 256 (3 * xs.length) (val B24 xs)) (3 * xs.length) i = (digN 256 (3 * xs.length) (val B24 xs)).reverse := by
   unfold bsAt
   rw [show 3 * xs.length - i = 0 by omega, List.take_of_length_le (by omega)]; rfl
  rw [e]
  refine rbytes_tail hn _ hdd (by omega) ?_ (3 * xs.length) 0 (by omega) (by rw [List.take_of_length_le (by omega)])
  rw [tz_eq_dig (by decide) _ hdd, digN_val, Nat.mod_eq_of_lt hlt]
  exact hR
 | succ d ih =>
  intro i hi
  have ew : IntKind.i64.wrap (IntKind.i64.wrap (((3 * xs.length : Nat) : Int) - 1) - (i : Int)) = ((3 * xs.length - 1 - i : Nat) : Int) := by
   rw [w64 (n := ((3 * xs.length : Nat) : Int) - 1) (by omega), w64 (by omega)]; omega
  have e1 : IntKind.i64.wrap ((i : Int).tdiv 3) = ((i / 3 : Nat) : Int) := by
   rw [Int.tdiv_eq_ediv_of_nonneg (by omega), w64 (by omega)]; omega
  have e2 : IntKind.i64.wrap (8 * (i : Int).tmod 3) = ((8 * (i % 3) : Nat) : Int) := by
   rw [Int.tmod_eq_emod_of_nonneg (by omega), w64 (by omega)]; omega
  have hb := rbyte_eq xs hd i (by omega) (by omega)
  have hbl := bsAt_length hdl (show i ≤ 3 * xs.length by omega)
  have hset : ∀ x : Int, x = ((val B24 xs / 256 ^ i % 256 : Nat) : Int) → setCells (own (u8s (bsAt (digN 256 (3 * xs.length) (val B24 xs)) (3 * xs.length) i))) (0 + (3 * xs.length - 1 - i) * 1) [.cv (.lit (.int .u8 x))] = own (u8s (bsAt (digN 256 (3 * xs.length) (val B24 xs)) (3 * xs.length) (i + 1))) := by
   intro x hx
   rw [hx, Nat.zero_add, Nat.mul_one, own_u8_set (by omega), ← digN_get 256 (3 * xs.length) _ i (by omega), bsAt_set hdl (by omega)]
  refine RByL_p1 xs.length (3 * xs.length) i xs _ (decide_eq_true (by omega)) (by rw [e1]; omega) ?_ (by rw [e2]; omega) (by rw [ew]; omega) ?_ ?_ (by rw [hn]; rfl) ?_
  · have := i64s_get (xs := xs) (i := i / 3) (by omega)
    rw [e1, Int.toNat_natCast, Nat.mul_one]; exact this
  · rw [ew, Int.toNat_natCast]; simp [own, u8s, hbl]; omega
  · rw [ew, Int.toNat_natCast, hset _ hb]; exact CvL.map_cv _
  · rw [ew, Int.toNat_natCast, hset _ hb, w64 (by omega)]
    exact ih (i + 1) (by omega)
theorem rbytes_spec (n : Nat) (xs : List Nat) (hn : n = xs.length) (hd : Dig B24 xs) (hl : xs.length < 2 ^ 40) : PCall P 237 [.lst n (i64s xs)] (cstr (bytesOf (val B24 xs))) := by
 subst hn
 have e1 : IntKind.i64.wrap (3 * (xs.length : Int)) = ((3 * xs.length : Nat) : Int) := by rw [w64 (by omega)]; omega
 refine RBy_p1 xs.length xs (by rw [e1]; omega) (by rw [e1, Int.toNat_natCast, Nat.mul_one, make_u8]; exact CvL.map_cv _) (R := (· = _)) ?_
 rw [e1, Int.toNat_natCast, Nat.mul_one, make_u8]
 have := rbytes_fill (R := (· = cstr (bytesOf (val B24 xs)))) rfl xs hd hl rfl (3 * xs.length) 0 (by omega)
 simpa [bsAt] using this
end Go.Fw
open Go IntKind
namespace Go.Fw
set_option maxRecDepth 100000
theorem RSg_p1 (b : Bool) (n : Nat) (xs : List Nat) (h1 : (b) = true) (s2_0 : n = xs.length) (s2_1 : Dig 16777216 xs) (s2_2 : xs.length < 2 ^ 40) : PCall P 196 [.lit (.bool b), .lst n (i64s xs)] (.agg [.lit (.bool !(bytesOf (val 16777216 xs)).toList == []), .lit (.string (bytesOf (val 16777216 xs)))]) :=
 pcallT (.r 2 (rbytes_spec (n) (xs) s2_0 s2_1 s2_2) (.b 5 h1 (.c (lq 2 2) .nil))) (by kernel_rfl)
theorem RSg_p2 (b : Bool) (n : Nat) (xs : List Nat) (h1 : (b) = false) (s2_0 : n = xs.length) (s2_1 : Dig 16777216 xs) (s2_2 : xs.length < 2 ^ 40) : PCall P 196 [.lit (.bool b), .lst n (i64s xs)] (.agg [.lit (.bool false), .lit (.string (bytesOf (val 16777216 xs)))]) :=
 pcallT (.r 2 (rbytes_spec (n) (xs) s2_0 s2_1 s2_2) (.b 5 h1 (.c (lq 2 2) .nil))) (by kernel_rfl)
end Go.Fw
open Go
namespace Go.Fw
theorem RSg_spec (b : Bool) (n : Nat) (xs : List Nat) (hn : n = xs.length) (hd : Dig B24 xs) (hl : xs.length < 2 ^ 40) : PCall P 196 [.lit (.bool b), .lst n (i64s xs)] (intC (if b then -(val B24 xs : Int) else val B24 xs)) := by
 cases b with
 | true =>
  refine (RSg_p1 true n xs rfl hn hd hl).eq ?_
  simp only [intC, if_true, Int.natAbs_neg, Int.natAbs_natCast]
  congr 4
  rw [toList_nil_iff]
  rw [decide_eq_decide.2 (bytesOf_size_zero (n := val B24 xs))]
  have key : ∀ v : Nat, (!decide (v = 0)) = decide (-(v : Int) < 0) := fun v => by
   cases v with
   | zero => rfl
   | succ k => rw [decide_eq_false (by omega)]; exact (decide_eq_true (by omega)).symm
  exact key _
 | false =>
  refine (RSg_p2 false n xs rfl hn hd hl).eq ?_
  simp only [intC, Bool.false_eq_true, if_false, Int.natAbs_natCast]
  congr 4
end Go.Fw
open Go
namespace Go.Fw
theorem RSg3 (b : Bool) (x y z : Int) (hx : 0 ≤ x ∧ x < 16777216) (hy : 0 ≤ y ∧ y < 16777216) (hz : 0 ≤ z ∧ z < 16777216) :
    PCall P 196 [.lit (.bool b), .lst 3 [ci64 x, ci64 y, ci64 z]] (intC (if b then -(x + 16777216 * (y + 16777216 * z)) else x + 16777216 * (y + 16777216 * z))) := by
 have h1 : x.toNat < 16777216 := by omega
 have h2 : y.toNat < 16777216 := by omega
 have h3 : z.toNat < 16777216 := by omega
 have h := RSg_spec b 3 [x.toNat, y.toNat, z.toNat] rfl (by
  intro v hv
  simp only [List.mem_cons, List.not_mem_nil, or_false] at hv
  rcases hv with e | e | e <;> (rw [e]; assumption)) (by show 3 < 2 ^ 40; decide)
 have e : i64s [x.toNat, y.toNat, z.toNat] = [ci64 x, ci64 y, ci64 z] := by
  simp only [i64s, List.map_cons, List.map_nil, Int.toNat_of_nonneg hx.1, Int.toNat_of_nonneg hy.1, Int.toNat_of_nonneg hz.1]
 rw [e] at h
 refine h.eq ?_
 have ev : ((val B24 [x.toNat, y.toNat, z.toNat] : Nat) : Int) = x + 16777216 * (y + 16777216 * z) := by
  simp only [val, B24]; omega
 rw [ev]
end Go.Fw
open Go
namespace Go.Fw
set_option maxRecDepth 100000
theorem ROf_p1 (n : Int) (h1 : decide (n < (0 : Int)) = true) (s24_0 : (0 : Int) ≤ IntKind.i64.wrap ((IntKind.u64.wrap ((0 : Int) - IntKind.u64.wrap n)).tmod (16777216 : Int)) ∧ IntKind.i64.wrap ((IntKind.u64.wrap ((0 : Int) - IntKind.u64.wrap n)).tmod (16777216 : Int)) < (16777216 : Int)) (s24_1 : (0 : Int) ≤ IntKind.i64.wrap ((IntKind.u64.wrap ((IntKind.u64.wrap ((0 : Int) - IntKind.u64.wrap n)).tdiv (16777216 : Int))).tmod (16777216 : Int)) ∧ IntKind.i64.wrap ((IntKind.u64.wrap ((IntKind.u64.wrap ((0 : Int) - IntKind.u64.wrap n)).tdiv (16777216 : Int))).tmod (16777216 : Int)) < (16777216 : Int)) (s24_2 : (0 : Int) ≤ IntKind.i64.wrap (IntKind.u64.wrap ((IntKind.u64.wrap ((IntKind.u64.wrap ((0 : Int) - IntKind.u64.wrap n)).tdiv (16777216 : Int))).tdiv (16777216 : Int))) ∧ IntKind.i64.wrap (IntKind.u64.wrap ((IntKind.u64.wrap ((IntKind.u64.wrap ((0 : Int) - IntKind.u64.wrap n)).tdiv (16777216 : Int))).tdiv (16777216 : Int))) < (16777216 : Int)) (o7 : [MV.cv (CV.lit (Value.int IntKind.i64 (IntKind.i64.wrap ((IntKind.u64.wrap ((0 : Int) - IntKind.u64.wrap n)).tmod (16777216 : Int))))), MV.cv (CV.lit (Value.int IntKind.i64 (IntKind.i64.wrap ((IntKind.u64.wrap ((IntKind.u64.wrap ((0 : Int) - IntKind.u64.wrap n)).tdiv (16777216 : Int))).tmod (16777216 : Int))))), MV.cv (CV.lit (Value.int IntKind.i64 (IntKind.i64.wrap (IntKind.u64.wrap ((IntKind.u64.wrap ((IntKind.u64.wrap ((0 : Int) - IntKind.u64.wrap n)).tdiv (16777216 : Int))).tdiv (16777216 : Int))))))] = [MV.cv (CV.lit (Value.int IntKind.i64 (IntKind.i64.wrap ((IntKind.u64.wrap ((0 : Int) - IntKind.u64.wrap n)).tmod (16777216 : Int))))), MV.cv (CV.lit (Value.int IntKind.i64 (IntKind.i64.wrap ((IntKind.u64.wrap ((IntKind.u64.wrap ((0 : Int) - IntKind.u64.wrap n)).tdiv (16777216 : Int))).tmod (16777216 : Int))))), MV.cv (CV.lit (Value.int IntKind.i64 (IntKind.i64.wrap (IntKind.u64.wrap ((IntKind.u64.wrap ((IntKind.u64.wrap ((0 : Int) - IntKind.u64.wrap n)).tdiv (16777216 : Int))).tdiv (16777216 : Int))))))]) : PCall P (131 : FuncId) [ci64 n] (CV.agg [CV.lit (Value.bool (decide ((if decide (n < (0 : Int)) = true then -(IntKind.i64.wrap ((IntKind.u64.wrap ((0 : Int) - IntKind.u64.wrap n)).tmod (16777216 : Int)) + (16777216 : Int) * (IntKind.i64.wrap ((IntKind.u64.wrap ((IntKind.u64.wrap ((0 : Int) - IntKind.u64.wrap n)).tdiv (16777216 : Int))).tmod (16777216 : Int)) + (16777216 : Int) * IntKind.i64.wrap (IntKind.u64.wrap ((IntKind.u64.wrap ((IntKind.u64.wrap ((0 : Int) - IntKind.u64.wrap n)).tdiv (16777216 : Int))).tdiv (16777216 : Int))))) else IntKind.i64.wrap ((IntKind.u64.wrap ((0 : Int) - IntKind.u64.wrap n)).tmod (16777216 : Int)) + (16777216 : Int) * (IntKind.i64.wrap ((IntKind.u64.wrap ((IntKind.u64.wrap ((0 : Int) - IntKind.u64.wrap n)).tdiv (16777216 : Int))).tmod (16777216 : Int)) + (16777216 : Int) * IntKind.i64.wrap (IntKind.u64.wrap ((IntKind.u64.wrap ((IntKind.u64.wrap ((0 : Int) - IntKind.u64.wrap n)).tdiv (16777216 : Int))).tdiv (16777216 : Int))))) < (0 : Int)))), CV.lit (Value.string (bytesOf (if decide (n < (0 : Int)) = true then -(IntKind.i64.wrap ((IntKind.u64.wrap ((0 : Int) - IntKind.u64.wrap n)).tmod (16777216 : Int)) + (16777216 : Int) * (IntKind.i64.wrap ((IntKind.u64.wrap ((IntKind.u64.wrap ((0 : Int) - IntKind.u64.wrap n)).tdiv (16777216 : Int))).tmod (16777216 : Int)) + (16777216 : Int) * IntKind.i64.wrap (IntKind.u64.wrap ((IntKind.u64.wrap ((IntKind.u64.wrap ((0 : Int) - IntKind.u64.wrap n)).tdiv (16777216 : Int))).tdiv (16777216 : Int))))) else IntKind.i64.wrap ((IntKind.u64.wrap ((0 : Int) - IntKind.u64.wrap n)).tmod (16777216 : Int)) + (16777216 : Int) * (IntKind.i64.wrap ((IntKind.u64.wrap ((IntKind.u64.wrap ((0 : Int) - IntKind.u64.wrap n)).tdiv (16777216 : Int))).tmod (16777216 : Int)) + (16777216 : Int) * IntKind.i64.wrap (IntKind.u64.wrap ((IntKind.u64.wrap ((IntKind.u64.wrap ((0 : Int) - IntKind.u64.wrap n)).tdiv (16777216 : Int))).tdiv (16777216 : Int))))).natAbs))]) :=
 pcallT (.b 6 h1 (.c (show (16777216 : Int) ≠ (0 : Int) from (by decide)) (.c (show (16777216 : Int) ≠ (0 : Int) from (by decide)) (.c (show (16777216 : Int) ≠ (0 : Int) from (by decide)) (.c (show (16777216 : Int) ≠ (0 : Int) from (by decide)) (.c (show (16777216 : Int) ≠ (0 : Int) from (by decide)) (.c (Go.Fw.RSg3 (decide (n < (0 : Int))) (IntKind.i64.wrap ((IntKind.u64.wrap ((0 : Int) - IntKind.u64.wrap n)).tmod (16777216 : Int))) (IntKind.i64.wrap ((IntKind.u64.wrap ((IntKind.u64.wrap ((0 : Int) - IntKind.u64.wrap n)).tdiv (16777216 : Int))).tmod (16777216 : Int))) (IntKind.i64.wrap (IntKind.u64.wrap ((IntKind.u64.wrap ((IntKind.u64.wrap ((0 : Int) - IntKind.u64.wrap n)).tdiv (16777216 : Int))).tdiv (16777216 : Int)))) s24_0 s24_1 s24_2) (.c o7 (.c (show 2 ≤ 2 from (by decide)) (.o 24 (Or.k (CV.agg [CV.lit (Value.bool (decide ((if decide (n < (0 : Int)) = true then -(IntKind.i64.wrap ((IntKind.u64.wrap ((0 : Int) - IntKind.u64.wrap n)).tmod (16777216 : Int)) + (16777216 : Int) * (IntKind.i64.wrap ((IntKind.u64.wrap ((IntKind.u64.wrap ((0 : Int) - IntKind.u64.wrap n)).tdiv (16777216 : Int))).tmod (16777216 : Int)) + (16777216 : Int) * IntKind.i64.wrap (IntKind.u64.wrap ((IntKind.u64.wrap ((IntKind.u64.wrap ((0 : Int) - IntKind.u64.wrap n)).tdiv (16777216 : Int))).tdiv (16777216 : Int))))) else IntKind.i64.wrap ((IntKind.u64.wrap ((0 : Int) - IntKind.u64.wrap n)).tmod (16777216 : Int)) + (16777216 : Int) * (IntKind.i64.wrap ((IntKind.u64.wrap ((IntKind.u64.wrap ((0 : Int) - IntKind.u64.wrap n)).tdiv (16777216 : Int))).tmod (16777216 : Int)) + (16777216 : Int) * IntKind.i64.wrap (IntKind.u64.wrap ((IntKind.u64.wrap ((IntKind.u64.wrap ((0 : Int) - IntKind.u64.wrap n)).tdiv (16777216 : Int))).tdiv (16777216 : Int))))) < (0 : Int)))), CV.lit (Value.string (bytesOf (if decide (n < (0 : Int)) = true then -(IntKind.i64.wrap ((IntKind.u64.wrap ((0 : Int) - IntKind.u64.wrap n)).tmod (16777216 : Int)) + (16777216 : Int) * (IntKind.i64.wrap ((IntKind.u64.wrap ((IntKind.u64.wrap ((0 : Int) - IntKind.u64.wrap n)).tdiv (16777216 : Int))).tmod (16777216 : Int)) + (16777216 : Int) * IntKind.i64.wrap (IntKind.u64.wrap ((IntKind.u64.wrap ((IntKind.u64.wrap ((0 : Int) - IntKind.u64.wrap n)).tdiv (16777216 : Int))).tdiv (16777216 : Int))))) else IntKind.i64.wrap ((IntKind.u64.wrap ((0 : Int) - IntKind.u64.wrap n)).tmod (16777216 : Int)) + (16777216 : Int) * (IntKind.i64.wrap ((IntKind.u64.wrap ((IntKind.u64.wrap ((0 : Int) - IntKind.u64.wrap n)).tdiv (16777216 : Int))).tmod (16777216 : Int)) + (16777216 : Int) * IntKind.i64.wrap (IntKind.u64.wrap ((IntKind.u64.wrap ((IntKind.u64.wrap ((0 : Int) - IntKind.u64.wrap n)).tdiv (16777216 : Int))).tdiv (16777216 : Int))))).natAbs))]) [[CV.lit (Value.int IntKind.i64 (IntKind.i64.wrap ((IntKind.u64.wrap ((0 : Int) - IntKind.u64.wrap n)).tmod (16777216 : Int)))), CV.lit (Value.int IntKind.i64 (IntKind.i64.wrap ((IntKind.u64.wrap ((IntKind.u64.wrap ((0 : Int) - IntKind.u64.wrap n)).tdiv (16777216 : Int))).tmod (16777216 : Int)))), CV.lit (Value.int IntKind.i64 (IntKind.i64.wrap (IntKind.u64.wrap ((IntKind.u64.wrap ((IntKind.u64.wrap ((0 : Int) - IntKind.u64.wrap n)).tdiv (16777216 : Int))).tdiv (16777216 : Int)))))]]) .nil)))))))))) (by kernel_rfl)
theorem ROf_p2 (n : Int) (h1 : decide (n < (0 : Int)) = false) (s21_0 : (0 : Int) ≤ IntKind.i64.wrap ((IntKind.u64.wrap n).tmod (16777216 : Int)) ∧ IntKind.i64.wrap ((IntKind.u64.wrap n).tmod (16777216 : Int)) < (16777216 : Int)) (s21_1 : (0 : Int) ≤ IntKind.i64.wrap ((IntKind.u64.wrap ((IntKind.u64.wrap n).tdiv (16777216 : Int))).tmod (16777216 : Int)) ∧ IntKind.i64.wrap ((IntKind.u64.wrap ((IntKind.u64.wrap n).tdiv (16777216 : Int))).tmod (16777216 : Int)) < (16777216 : Int)) (s21_2 : (0 : Int) ≤ IntKind.i64.wrap (IntKind.u64.wrap ((IntKind.u64.wrap ((IntKind.u64.wrap n).tdiv (16777216 : Int))).tdiv (16777216 : Int))) ∧ IntKind.i64.wrap (IntKind.u64.wrap ((IntKind.u64.wrap ((IntKind.u64.wrap n).tdiv (16777216 : Int))).tdiv (16777216 : Int))) < (16777216 : Int)) (o7 : [MV.cv (CV.lit (Value.int IntKind.i64 (IntKind.i64.wrap ((IntKind.u64.wrap n).tmod (16777216 : Int))))), MV.cv (CV.lit (Value.int IntKind.i64 (IntKind.i64.wrap ((IntKind.u64.wrap ((IntKind.u64.wrap n).tdiv (16777216 : Int))).tmod (16777216 : Int))))), MV.cv (CV.lit (Value.int IntKind.i64 (IntKind.i64.wrap (IntKind.u64.wrap ((IntKind.u64.wrap ((IntKind.u64.wrap n).tdiv (16777216 : Int))).tdiv (16777216 : Int))))))] = [MV.cv (CV.lit (Value.int IntKind.i64 (IntKind.i64.wrap ((IntKind.u64.wrap n).tmod (16777216 : Int))))), MV.cv (CV.lit (Value.int IntKind.i64 (IntKind.i64.wrap ((IntKind.u64.wrap ((IntKind.u64.wrap n).tdiv (16777216 : Int))).tmod (16777216 : Int))))), MV.cv (CV.lit (Value.int IntKind.i64 (IntKind.i64.wrap (IntKind.u64.wrap ((IntKind.u64.wrap ((IntKind.u64.wrap n).tdiv (16777216 : Int))).tdiv (16777216 : Int))))))]) : PCall P (131 : FuncId) [ci64 n] (CV.agg [CV.lit (Value.bool (decide ((if decide (n < (0 : Int)) = true then -(IntKind.i64.wrap ((IntKind.u64.wrap n).tmod (16777216 : Int)) + (16777216 : Int) * (IntKind.i64.wrap ((IntKind.u64.wrap ((IntKind.u64.wrap n).tdiv (16777216 : Int))).tmod (16777216 : Int)) + (16777216 : Int) * IntKind.i64.wrap (IntKind.u64.wrap ((IntKind.u64.wrap ((IntKind.u64.wrap n).tdiv (16777216 : Int))).tdiv (16777216 : Int))))) else IntKind.i64.wrap ((IntKind.u64.wrap n).tmod (16777216 : Int)) + (16777216 : Int) * (IntKind.i64.wrap ((IntKind.u64.wrap ((IntKind.u64.wrap n).tdiv (16777216 : Int))).tmod (16777216 : Int)) + (16777216 : Int) * IntKind.i64.wrap (IntKind.u64.wrap ((IntKind.u64.wrap ((IntKind.u64.wrap n).tdiv (16777216 : Int))).tdiv (16777216 : Int))))) < (0 : Int)))), CV.lit (Value.string (bytesOf (if decide (n < (0 : Int)) = true then -(IntKind.i64.wrap ((IntKind.u64.wrap n).tmod (16777216 : Int)) + (16777216 : Int) * (IntKind.i64.wrap ((IntKind.u64.wrap ((IntKind.u64.wrap n).tdiv (16777216 : Int))).tmod (16777216 : Int)) + (16777216 : Int) * IntKind.i64.wrap (IntKind.u64.wrap ((IntKind.u64.wrap ((IntKind.u64.wrap n).tdiv (16777216 : Int))).tdiv (16777216 : Int))))) else IntKind.i64.wrap ((IntKind.u64.wrap n).tmod (16777216 : Int)) + (16777216 : Int) * (IntKind.i64.wrap ((IntKind.u64.wrap ((IntKind.u64.wrap n).tdiv (16777216 : Int))).tmod (16777216 : Int)) + (16777216 : Int) * IntKind.i64.wrap (IntKind.u64.wrap ((IntKind.u64.wrap ((IntKind.u64.wrap n).tdiv (16777216 : Int))).tdiv (16777216 : Int))))).natAbs))]) :=
 pcallT (.b 6 h1 (.c (show (16777216 : Int) ≠ (0 : Int) from (by decide)) (.c (show (16777216 : Int) ≠ (0 : Int) from (by decide)) (.c (show (16777216 : Int) ≠ (0 : Int) from (by decide)) (.c (show (16777216 : Int) ≠ (0 : Int) from (by decide)) (.c (show (16777216 : Int) ≠ (0 : Int) from (by decide)) (.c (Go.Fw.RSg3 (decide (n < (0 : Int))) (IntKind.i64.wrap ((IntKind.u64.wrap n).tmod (16777216 : Int))) (IntKind.i64.wrap ((IntKind.u64.wrap ((IntKind.u64.wrap n).tdiv (16777216 : Int))).tmod (16777216 : Int))) (IntKind.i64.wrap (IntKind.u64.wrap ((IntKind.u64.wrap ((IntKind.u64.wrap n).tdiv (16777216 : Int))).tdiv (16777216 : Int)))) s21_0 s21_1 s21_2) (.c o7 (.c (show 2 ≤ 2 from (by decide)) (.o 21 (Or.k (CV.agg [CV.lit (Value.bool (decide ((if decide (n < (0 : Int)) = true then -(IntKind.i64.wrap ((IntKind.u64.wrap n).tmod (16777216 : Int)) + (16777216 : Int) * (IntKind.i64.wrap ((IntKind.u64.wrap ((IntKind.u64.wrap n).tdiv (16777216 : Int))).tmod (16777216 : Int)) + (16777216 : Int) * IntKind.i64.wrap (IntKind.u64.wrap ((IntKind.u64.wrap ((IntKind.u64.wrap n).tdiv (16777216 : Int))).tdiv (16777216 : Int))))) else IntKind.i64.wrap ((IntKind.u64.wrap n).tmod (16777216 : Int)) + (16777216 : Int) * (IntKind.i64.wrap ((IntKind.u64.wrap ((IntKind.u64.wrap n).tdiv (16777216 : Int))).tmod (16777216 : Int)) + (16777216 : Int) * IntKind.i64.wrap (IntKind.u64.wrap ((IntKind.u64.wrap ((IntKind.u64.wrap n).tdiv (16777216 : Int))).tdiv (16777216 : Int))))) < (0 : Int)))), CV.lit (Value.string (bytesOf (if decide (n < (0 : Int)) = true then -(IntKind.i64.wrap ((IntKind.u64.wrap n).tmod (16777216 : Int)) + (16777216 : Int) * (IntKind.i64.wrap ((IntKind.u64.wrap ((IntKind.u64.wrap n).tdiv (16777216 : Int))).tmod (16777216 : Int)) + (16777216 : Int) * IntKind.i64.wrap (IntKind.u64.wrap ((IntKind.u64.wrap ((IntKind.u64.wrap n).tdiv (16777216 : Int))).tdiv (16777216 : Int))))) else IntKind.i64.wrap ((IntKind.u64.wrap n).tmod (16777216 : Int)) + (16777216 : Int) * (IntKind.i64.wrap ((IntKind.u64.wrap ((IntKind.u64.wrap n).tdiv (16777216 : Int))).tmod (16777216 : Int)) + (16777216 : Int) * IntKind.i64.wrap (IntKind.u64.wrap ((IntKind.u64.wrap ((IntKind.u64.wrap n).tdiv (16777216 : Int))).tdiv (16777216 : Int))))).natAbs))]) [[CV.lit (Value.int IntKind.i64 (IntKind.i64.wrap ((IntKind.u64.wrap n).tmod (16777216 : Int)))), CV.lit (Value.int IntKind.i64 (IntKind.i64.wrap ((IntKind.u64.wrap ((IntKind.u64.wrap n).tdiv (16777216 : Int))).tmod (16777216 : Int)))), CV.lit (Value.int IntKind.i64 (IntKind.i64.wrap (IntKind.u64.wrap ((IntKind.u64.wrap ((IntKind.u64.wrap n).tdiv (16777216 : Int))).tdiv (16777216 : Int)))))]]) .nil)))))))))) (by kernel_rfl)
end Go.Fw
open Go
namespace Go.Fw
theorem of_digits {U : Int} (h : 0 ≤ U ∧ U ≤ 9223372036854775808) : IntKind.i64.wrap (U.tmod 16777216) = U % 16777216 ∧ IntKind.u64.wrap (U.tdiv 16777216) = U / 16777216 ∧ IntKind.i64.wrap ((U / 16777216).tmod 16777216) = U / 16777216 % 16777216 ∧
    IntKind.i64.wrap (IntKind.u64.wrap ((U / 16777216).tdiv 16777216)) = U / 16777216 / 16777216 := by
 rw [Int.tmod_eq_emod_of_nonneg h.1, Int.tdiv_eq_ediv_of_nonneg h.1, Int.tmod_eq_emod_of_nonneg (by omega), Int.tdiv_eq_ediv_of_nonneg (by omega), wr64, wr64, w64 (by omega), w64 (by omega), w64 (by omega)]
 omega
theorem ROf_spec (n : Int) (h : -9223372036854775808 ≤ n ∧ n ≤ 9223372036854775807) : PCall P 131 [ci64 n] (intC n) := by
 cases h1 : decide (n < 0) with
 | true =>
  have h1' := of_decide_eq_true h1
  have hu : IntKind.u64.wrap (0 - IntKind.u64.wrap n) = -n := by rw [wr64, wr64]; omega
  obtain ⟨d1, d2, d3, d4⟩ := of_digits (U := -n) (by omega)
  refine (ROf_p1 n h1 (by rw [hu, d1]; omega) (by rw [hu, d2, d3]; omega) (by rw [hu, d2, d4]; omega) rfl).eq ?_
  rw [hu, d1, d2, d3, d4]
  show intC _ = intC n
  congr 1
  rw [if_pos (by simpa using h1')]; omega
 | false =>
  have h1' := of_decide_eq_false h1
  have hu : IntKind.u64.wrap n = n := by rw [wr64]; omega
  obtain ⟨d1, d2, d3, d4⟩ := of_digits (U := n) (by omega)
  refine (ROf_p2 n h1 (by rw [hu, d1]; omega) (by rw [hu, d2, d3]; omega) (by rw [hu, d2, d4]; omega) rfl).eq ?_
  rw [hu, d1, d2, d3, d4]
  show intC _ = intC n
  congr 1
  rw [if_neg (by simpa using h1')]; omega
end Go.Fw
open Go IntKind
namespace Go.Fw
set_option maxRecDepth 100000
theorem RI64_p2 (z : Int) (h1 : decide ((↑(bytesOf z.natAbs).size : Int) > 8) = false) {R : CV → Prop} (hR : Ok P 236 (loopHead P 236 0) ⟨mkTm 52 [(1, .ptr 0 0), (4, .cv (.lit (.int .u64 0))), (5, .cv (.lit (.int .i64 0)))], [some [.cv (.lit (.bool (decide (z < 0)))), .cv (.lit (.string (bytesOf z.natAbs)))]]⟩ (.of R)) : PCallQ P 236 [intC z] R :=
 pcallST (keep := [1, 4, 5]) (σ := [0]) (.r 4 (rValid_int (z)) (.b 12 h1 (.o 15 .stop .nil))) (by kernel_rfl) rfl hR (.cons (by simp [CvL]) .nil)
theorem RI64L_p1 (b : Bool) (s : ByteArray) (i u : Nat) (h : decide ((i : Int) < (↑s.size : Int)) = true) (o2 : (0 : Int) ≤ i ∧ (i : Int) < (↑s.size : Int)) {R : Goal} (hn : lentOk R.n [0] = true) (hR : Ok P 236 (loopHead P 236 0) ⟨mkTm 52 [(1, .ptr 0 0), (4, .cv (.lit (.int .u64 (u64.wrap (u64.wrap ((u : Int) * 256) + u64.wrap (↑(s.data.getD (i : Int).toNat (OfNat.ofNat 0)).toNat : Int)))))), (5, .cv (.lit (.int .i64 (i64.wrap ((i : Int) + 1)))))], [some [.cv (.lit (.bool b)), .cv (.lit (.string s))]]⟩ R) : Ok P 236 (loopHead P 236 0) ⟨mkTm 52 [(1, .ptr 0 0), (4, .cv (.lit (.int .u64 (u : Int)))), (5, .cv (ci64 (i : Int)))], [some [.cv (.lit (.bool b)), .cv (.lit (.string s))]]⟩ R :=
 okST (keep := [1, 4, 5]) (σ := [0]) (.b 6 h (.c (nn 8) (.c o2 (.o 19 .stop .nil)))) (by kernel_rfl) rfl hn hR (.cons (by simp [CvL]) .nil)
end Go.Fw
open Go IntKind
namespace Go.Fw
set_option maxRecDepth 100000
theorem RI64E_p1 (s : ByteArray) (i : Nat) (u : Int) (h : decide ((i : Int) < (↑s.size : Int)) = false) (h2 : decide (u < 9223372036854775808) = true) {R : Goal} (hR : R.c (.tup [.lit (.int .i64 (i64.wrap u)), .lit (.bool true)])) : Ok P 236 (loopHead P 236 0) ⟨mkTm 52 [(1, .ptr 0 0), (4, .cv (.lit (.int .u64 u))), (5, .cv (ci64 (i : Int)))], [some [.cv (.lit (.bool false)), .cv (.lit (.string s))]]⟩ R :=
 okT (.b 6 h (.b 23 h2 .nil)) (by kernel_rfl) hR
theorem RI64N_p1 (s : ByteArray) (i : Nat) (u : Int) (h : decide ((i : Int) < (↑s.size : Int)) = false) (h2 : decide (u ≤ 9223372036854775808) = true) {R : Goal} (hR : R.c (.tup [.lit (.int .i64 (i64.wrap (i64.wrap ((0 : Int) - i64.wrap (u64.wrap (u - 1))) - 1))), .lit (.bool true)])) : Ok P 236 (loopHead P 236 0) ⟨mkTm 52 [(1, .ptr 0 0), (4, .cv (.lit (.int .u64 u))), (5, .cv (ci64 (i : Int)))], [some [.cv (.lit (.bool true)), .cv (.lit (.string s))]]⟩ R :=
 okT (.b 6 h (.b 14 h2 .nil)) (by kernel_rfl) hR
end Go.Fw
open Go
namespace Go.Fw
theorem byte_digit (s : ByteArray) {i : Nat} (h : i < s.size) : (s.data.getD i (OfNat.ofNat 0)).toNat = strVal s / 256 ^ (s.size - 1 - i) % 256 := by
 have := lows_get s (i := s.size - 1 - i) (by omega)
 rw [show s.size - 1 - (s.size - 1 - i) = i by omega] at this
 refine this.symm.trans ?_
 have hd := lows_dig s
 conv => lhs; rw [← digN_of_val (by decide) (lows s) hd]
 rw [digN_get _ _ _ _ (by rw [lows_length]; omega)]; rfl
theorem RI64_loop {R : Goal} (hn : R.n = 0) (b : Bool) (s : ByteArray) (hs : s.size ≤ 8)
    (hR : Ok P 236 (loopHead P 236 0) ⟨mkTm 52 [(1, .ptr 0 0), (4, .cv (.lit (.int .u64 (strVal s : Nat)))), (5, .cv (ci64 s.size))], [some [.cv (.lit (.bool b)), .cv (.lit (.string s))]]⟩ R) : ∀ (d i : Nat), i + d = s.size →
    Ok P 236 (loopHead P 236 0) ⟨mkTm 52 [(1, .ptr 0 0), (4, .cv (.lit (.int .u64 (strVal s / 256 ^ (s.size - i) : Nat)))), (5, .cv (ci64 i))], [some [.cv (.lit (.bool b)), .cv (.lit (.string s))]]⟩ R
 | 0, i, hi => by
  have : i = s.size := by omega
  subst this
  simpa using hR
 | d + 1, i, hi => by
  refine RI64L_p1 b s i _ (decide_eq_true (by omega)) (by omega) (by rw [hn]; rfl) ?_
  have hb := byte_digit s (i := i) (by omega)
  have hV : strVal s < 18446744073709551616 := Nat.lt_of_lt_of_le (strVal_lt s) (Nat.pow_le_pow_right (by decide) hs)
  have hstep : strVal s / 256 ^ (s.size - (i + 1)) = strVal s / 256 ^ (s.size - i) * 256 + strVal s / 256 ^ (s.size - 1 - i) % 256 := by
   rw [show s.size - i = (s.size - 1 - i) + 1 by omega, Nat.pow_succ, ← Nat.div_div_eq_div_mul, show s.size - (i + 1) = s.size - 1 - i by omega]
   omega
  have hle := Nat.div_le_self (strVal s) (256 ^ (s.size - (i + 1)))
  have ih := RI64_loop hn b s hs hR d (i + 1) (by omega)
  rw [hstep] at ih hle
  rw [Int.toNat_natCast, hb, wr64, wr64, wr64, w64 (by omega)]
  generalize strVal s / 256 ^ (s.size - i) = A at ih hle ⊢
  generalize strVal s / 256 ^ (s.size - 1 - i) % 256 = B at ih hle ⊢
  rw [show ((A : Int) * 256 % 18446744073709551616 + (B : Int) % 18446744073709551616) % 18446744073709551616 = ((A * 256 + B : Nat) : Int) by omega]
  exact ih
end Go.Fw
open Go
namespace Go.Fw
theorem size_le {n k : Nat} : (bytesOf n).size ≤ k ↔ n < 256 ^ k := by rw [bytesOf_size]; exact dig_len_iff (by decide)
theorem RI64_spec (z : Int) (h : -9223372036854775808 < z ∧ z < 9223372036854775808) : PCall P 236 [intC z] (.tup [ci64 z, .lit (.bool true)]) := by
 have hs : (bytesOf z.natAbs).size ≤ 8 := size_le.2 (by omega)
 refine RI64_p2 z (decide_eq_false (by omega)) (R := (· = _)) ?_
 have hv : strVal (bytesOf z.natAbs) = z.natAbs := strVal_bytesOf _
 have := RI64_loop (R := (· = CV.tup [ci64 z, .lit (.bool true)])) rfl (decide (z < 0)) (bytesOf z.natAbs) hs ?_ (bytesOf z.natAbs).size 0 (by omega)
 · have e : strVal (bytesOf z.natAbs) / 256 ^ ((bytesOf z.natAbs).size - 0) = 0 := Nat.div_eq_of_lt (strVal_lt _)
   rw [e] at this
   exact this
 · rw [hv]
   by_cases hz : z < 0
   · rw [decide_eq_true hz]
     refine RI64N_p1 _ _ _ (decide_eq_false (by omega)) (decide_eq_true (by omega)) ?_
     show CV.tup _ = CV.tup _
     rw [wr64, w64 (n := ((z.natAbs : Int) - 1) % 18446744073709551616) (by omega), w64 (n := 0 - ((z.natAbs : Int) - 1) % 18446744073709551616) (by omega), w64 (by omega)]
     congr 4; omega
   · rw [decide_eq_false hz]
     refine RI64E_p1 _ _ _ (decide_eq_false (by omega)) (decide_eq_true (by omega)) ?_
     show CV.tup _ = CV.tup _
     rw [w64 (by omega)]
     congr 4; omega
end Go.Fw
open Go IntKind
namespace Go.Fw
set_option maxRecDepth 100000
theorem RSmall_p2 (z : Int) (h1 : decide ((↑(bytesOf z.natAbs).size : Int) > 7) = false) (s9_0 : (-9223372036854775808 : Int) < z ∧ z < 9223372036854775808) : PCall P 194 [intC z] (.tup [.lit (.int .i64 z), .lit (.bool true)]) :=
 pcallT (.b 7 h1 (.r 9 (RI64_spec (z) s9_0) .nil)) (by kernel_rfl)
theorem RSign_p1 (z : Int) (h1 : ((bytesOf z.natAbs).toList == []) = true) : PCall P 183 [intC z] (.lit (.int .i64 0)) :=
 pcallT (.r 3 (rValid_int (z)) (.b 11 h1 .nil)) (by kernel_rfl)
theorem RSign_p2 (z : Int) (h1 : ((bytesOf z.natAbs).toList == []) = false) (h2 : decide (z < 0) = true) : PCall P 183 [intC z] (.lit (.int .i64 (-1 : Int))) :=
 pcallT (.r 3 (rValid_int (z)) (.b 11 h1 (.b 15 h2 .nil))) (by kernel_rfl)
theorem RSign_p3 (z : Int) (h1 : ((bytesOf z.natAbs).toList == []) = false) (h2 : decide (z < 0) = false) : PCall P 183 [intC z] (.lit (.int .i64 1)) :=
 pcallT (.r 3 (rValid_int (z)) (.b 11 h1 (.b 15 h2 .nil))) (by kernel_rfl)
theorem RAbs_p1 (z : Int) : PCall P 186 [intC z] (.agg [.lit (.bool false), .lit (.string (bytesOf z.natAbs))]) :=
 pcallT (.r 3 (rValid_int (z)) (.c (lq 2 2) .nil)) (by kernel_rfl)
end Go.Fw
open Go IntKind
namespace Go.Fw
set_option maxRecDepth 100000
theorem mulM_p1 (n m o i j x V : Nat) (xs ys : List Nat) (h1 : decide ((j : Int) < m) = true) (s14_0 : (0 : Int) ≤ i64.wrap ((i : Int) + j)) (s14_1 : o < 2 ^ 40) (s14_2 : (i64.wrap ((i : Int) + j)).toNat + 1 < o) (s14_3 : V + x * ys.getD ((j : Int).toNat * 1) 0 * 4294967296 ^ (i64.wrap ((i : Int) + j)).toNat < 4294967296 ^ o) (s14_4 : x < 4294967296) (s14_5 : ys.getD ((j : Int).toNat * 1) 0 < 4294967296) (o1 : (0 : Int) ≤ j ∧ (j : Int) < m) (o2 : (u32s ys)[(j : Int).toNat * 1]? = some (.lit (.int .u32 ↑(ys.getD ((j : Int).toNat * 1) 0)))) (o5 : BlksCv [some (own (u32s (digN 4294967296 o V))), some (own (u32s (digN 4294967296 o (V + x * ys.getD ((j : Int).toNat * 1) 0 * 4294967296 ^ (i64.wrap ((i : Int) + j)).toNat))))]) (o6 : CvL (own (u32s (digN 4294967296 o (V + x * ys.getD ((j : Int).toNat * 1) 0 * 4294967296 ^ (i64.wrap ((i : Int) + j)).toNat))))) {R : Goal} (hn : lentOk R.n [0] = true) (hR : Ok P 243 (loopHead P 243 1) ⟨mkTm 45 [(1, .cv (.lst m (u32s ys))), (5, .sl 0 0 o 1), (6, MV.fn 258 [.sl 0 0 o 1] []), (7, .cv (.lit (.int .i64 (i : Int)))), (8, .cv (.lit (.int .u32 (x : Int)))), (20, .cv (.lst n (u32s xs))), (21, .cv (.lit (.int .i64 (n : Int)))), (22, .cv (.lit (.int .i64 (i : Int)))), (27, .cv (.lst m (u32s ys))), (28, .cv (.lit (.int .i64 (m : Int)))), (29, .cv (.lit (.int .i64 (i64.wrap ((j : Int) + 1)))))], [some (own (u32s (digN 4294967296 o (V + x * ys.getD ((j : Int).toNat * 1) 0 * 4294967296 ^ (i64.wrap ((i : Int) + j)).toNat))))]⟩ R) : Ok P 243 (loopHead P 243 1) ⟨mkTm 45 [(1, .cv (.lst m (u32s ys))), (5, .sl 0 0 o 1), (6, MV.fn 258 [.sl 0 0 o 1] []), (7, .cv (.lit (.int .i64 (i : Int)))), (8, .cv (.lit (.int .u32 (x : Int)))), (20, .cv (.lst n (u32s xs))), (21, .cv (.lit (.int .i64 (n : Int)))), (22, .cv (.lit (.int .i64 (i : Int)))), (27, .cv (.lst m (u32s ys))), (28, .cv (.lit (.int .i64 (m : Int)))), (29, .cv (.lit (.int .i64 (j : Int))))], [some (own (u32s (digN B32 o V)))]⟩ R :=
 okS (keep := [1, 5, 6, 7, 8, 20, 21, 22, 27, 28, 29]) (σ := [0]) (ors := [(2, .b true), (5, .r (.lit (.int .u32 ↑(ys.getD ((j : Int).toNat * 1) 0)))), (14, .m [0] (.tup []) [some (own (u32s (digN B32 o (V + x * ys.getD ((j : Int).toNat * 1) 0 * B32 ^ (i64.wrap ((i : Int) + j)).toNat))))]), (17, .stop)]) (by kernel_rfl) rfl (.cons h1 (.cons o1 (.cons o2 (.cons (eqn 1) (.cons (put_spec' (o) (V) (i64.wrap ((i : Int) + j)) (x) (ys.getD ((j : Int).toNat * 1) 0) s14_0 s14_1 s14_2 s14_3 s14_4 s14_5) (.cons o5 (.cons o6 .nil))))))) hn hR
theorem mulM_p2 (n m o i j x V : Nat) (xs ys : List Nat) (h1 : decide ((j : Int) < m) = false) (o1 : CvL (own (u32s (digN 4294967296 o V)))) {R : Goal} (hn : lentOk R.n [0] = true) (hR : Ok P 243 (loopHead P 243 0) ⟨mkTm 45 [(1, .cv (.lst m (u32s ys))), (5, .sl 0 0 o 1), (6, MV.fn 258 [.sl 0 0 o 1] []), (20, .cv (.lst n (u32s xs))), (21, .cv (.lit (.int .i64 (n : Int)))), (22, .cv (.lit (.int .i64 (i64.wrap ((i : Int) + 1)))))], [some (own (u32s (digN 4294967296 o V)))]⟩ R) : Ok P 243 (loopHead P 243 1) ⟨mkTm 45 [(1, .cv (.lst m (u32s ys))), (5, .sl 0 0 o 1), (6, MV.fn 258 [.sl 0 0 o 1] []), (7, .cv (.lit (.int .i64 (i : Int)))), (8, .cv (.lit (.int .u32 (x : Int)))), (20, .cv (.lst n (u32s xs))), (21, .cv (.lit (.int .i64 (n : Int)))), (22, .cv (.lit (.int .i64 (i : Int)))), (27, .cv (.lst m (u32s ys))), (28, .cv (.lit (.int .i64 (m : Int)))), (29, .cv (.lit (.int .i64 (j : Int))))], [some (own (u32s (digN B32 o V)))]⟩ R :=
 okS (keep := [1, 5, 6, 20, 21, 22]) (σ := [0]) (ors := [(2, .b false), (5, .stop)]) (by kernel_rfl) rfl (.cons h1 (.cons o1 .nil)) hn hR
end Go.Fw
