/- A part of the proof that the law returns true for every input: an executor for the model's code, and what functions of the program compute. -/
import Derived.Test.YtcafjpldfnegiaaGreatDoorB11
import Derived.Test.YtcafjpldfnegiaaGreatDoorB15
import Derived.Test.YtcafjpldfnegiaaGreatDoorB30
import Derived.Test.YtcafjpldfnegiaaGreatDoorB31
import Derived.Test.YtcafjpldfnegiaaGreatDoorB32
import Derived.KernelRfl
open Go
namespace Go.Fw
set_option maxRecDepth 100000
theorem cstr_inj {a b : ByteArray} (h : cstr a = cstr b) : a = b := by injection h with h; injection h
theorem l_sz {x : RN} {k : K} {n : Nat} (h : x.l = numL k) (hr : x.raw n = true) : k.sz ≤ n := by
 unfold RN.l numL at h
 simp only [List.cons.injEq, and_true] at h
 obtain ⟨_, e0, _, e1, _, e2, _, e3, _, e4⟩ := h
 have f0 := cstr_inj e0
 have f1 := cstr_inj e1
 have f2 := cstr_inj e2
 have f3 := cstr_inj e3
 have f4 := cstr_inj e4
 unfold RN.raw at hr
 simp only [Bool.and_eq_true, decide_eq_true_eq] at hr
 rw [f0, f1, f2, f3, f4] at hr
 exact K.sz_le.2 ⟨size_le.1 hr.1.1.1.1, size_le.1 hr.1.1.1.2, size_le.1 hr.1.1.2, size_le.1 hr.1.2, size_le.1 hr.2⟩
theorem few_c (x y z : RN) : PCall P 48 [vecR x y z] (.lit (.bool (raw3 12 x y z))) := by
 unfold raw3
 cases ex : x.raw 12
 · exact fewr_p4 x y z ex
 · cases ey : y.raw 12
   · exact fewr_p3 x y z ex ey
   · cases ez : z.raw 12
     · exact fewr_p2 x y z ex ey ez
     · exact fewr_p1 x y z ex ey ez
def RN.zero : RN := ⟨false, ⟨#[]⟩, false, ⟨#[]⟩, false, ⟨#[]⟩, false, ⟨#[]⟩, false, ⟨#[]⟩⟩
theorem zero_bad : ok3 .zero .zero .zero = false := by decide
theorem zero_raw : raw3 1000000 .zero .zero .zero = true := by decide
theorem WTu_bad (x y z : RN) (i : Int) (g : ok3 x y z = false) (h : raw3 1000000 x y z = true) : PCall P 49 [vecR x y z, ci64 i] zeroVec := wTuB_p1 x y z i g h
theorem WFl_bad (x y z : RN) (g : ok3 x y z = false) (h : raw3 1000000 x y z = true) : PCall P 51 [vecR x y z] zeroVec := wFlB_p1 x y z g h
theorem WTu_zero (i : Int) : PCall P 49 [zeroVec, ci64 i] zeroVec := WTu_bad .zero .zero .zero i zero_bad zero_raw
end Go.Fw
open Go IntKind
namespace Go.Fw
set_option maxRecDepth 100000
theorem wMvB_p1 (x y z : RN) (t : Int) (b : Bool) (g : ok3 x y z = false) (h1 : (validM t) = true) (h2 : (b) = true) (s11_0 : raw3 1000000 x y z = true) : PCall P 53 [vecR x y z, .agg [ci64 t, .lit (.bool b)]] zeroVec :=
 pcallT (.r 4 ((WValid_spec (t) (b)).eqB h1) (.b 9 h2 (.r 11 (WFl_bad (x) (y) (z) g s11_0) (.c (lq 30 30) (.r 16 (WTu_zero (t)) (.c (lq 30 30) .nil)))))) (by kernel_rfl)
theorem wMvB_p2 (x y z : RN) (t : Int) (b : Bool) (g : ok3 x y z = false) (h1 : (validM t) = true) (h2 : (b) = false) (s13_0 : raw3 1000000 x y z = true) : PCall P 53 [vecR x y z, .agg [ci64 t, .lit (.bool b)]] zeroVec :=
 pcallT (.r 4 ((WValid_spec (t) (b)).eqB h1) (.b 9 h2 (.r 13 (WTu_bad (x) (y) (z) (t) g s13_0) (.c (lq 30 30) .nil)))) (by kernel_rfl)
theorem wMvB_p3 (x y z : RN) (t : Int) (b : Bool) (_g : ok3 x y z = false) (h1 : (validM t) = false) : PCall P 53 [vecR x y z, .agg [ci64 t, .lit (.bool b)]] zeroVec :=
 pcallT (.r 4 ((WValid_spec (t) (b)).eqB h1) (.c (lq 30 30) .nil)) (by kernel_rfl)
end Go.Fw
open Go
namespace Go.Fw
set_option maxRecDepth 100000
theorem WMov_bad (x y z : RN) (t : Int) (b : Bool) (g : ok3 x y z = false) (h : raw3 1000000 x y z = true) : PCall P 53 [vecR x y z, .agg [ci64 t, .lit (.bool b)]] zeroVec := by
 cases ht : validM t
 · exact wMvB_p3 x y z t b g ht
 · cases b
   · exact wMvB_p2 x y z t false g ht rfl h
   · exact wMvB_p1 x y z t true g ht rfl h
end Go.Fw
open Go
namespace Go.Fw
set_option maxRecDepth 100000
theorem int_cells {a b : Int} (h1 : CV.lit (.bool (decide (a < 0))) = CV.lit (.bool (decide (b < 0)))) (h2 : cstr (bytesOf a.natAbs) = cstr (bytesOf b.natAbs)) : a = b := by
 have e2 := bytesOf_inj (cstr_inj h2)
 injection h1 with h1
 injection h1 with h1
 rw [decide_eq_decide] at h1
 omega
theorem numL_inj {x y : K} (h : numL x = numL y) : x = y := by
 unfold numL at h
 simp only [List.cons.injEq, and_true] at h
 obtain ⟨a0, b0, a1, b1, a2, b2, a3, b3, a4, b4⟩ := h
 have e0 := int_cells a0 b0
 have e1 := int_cells a1 b1
 have e2 := int_cells a2 b2
 have e3 := int_cells a3 b3
 have e4 := int_cells a4 b4
 cases x
 cases y
 simp only at e0 e1 e2 e3 e4
 subst e0 e1 e2 e3 e4
 rfl
noncomputable def toO (x : RN) : Option K := if h : x.ok = true then some (RN.ok_k h).choose else none
def ofO : Option K → RN
 | none => .zero
 | some k => .ofK k
theorem toO_k {x : RN} (h : x.ok = true) : ∃ k, toO x = some k ∧ x.l = numL k := ⟨(RN.ok_k h).choose, dif_pos h, (RN.ok_k h).choose_spec⟩
theorem toO_bad {x : RN} (h : x.ok = false) : toO x = none := dif_neg (by rw [h]; decide)
theorem toO_ofK (k : K) : toO (.ofK k) = some k := by
 obtain ⟨k', h1, h2⟩ := toO_k (RN.ofK_ok k)
 rw [RN.ofK_l] at h2
 rw [h1, numL_inj h2]
theorem toO_zero : toO .zero = none := toO_bad (by decide)
theorem toO_ofO (o : Option K) : toO (ofO o) = o := by
 cases o with
 | none => exact toO_zero
 | some k => exact toO_ofK k
theorem toO_l {x : RN} {k : K} (h : toO x = some k) : x.ok = true ∧ x.l = numL k := by
 cases e : x.ok
 · rw [toO_bad e] at h; cases h
 · obtain ⟨k', h1, h2⟩ := toO_k e
   rw [h1] at h
   injection h with h
   subst h
   exact ⟨rfl, h2⟩
theorem toO_none {x : RN} (h : toO x = none) : x.ok = false := by
 cases e : x.ok
 · rfl
 · obtain ⟨k', h1, _⟩ := toO_k e
   rw [h1] at h; cases h
def osz : Option K → Nat
 | none => 0
 | some k => k.sz
theorem ofO_raw {o : Option K} {n : Nat} (h : osz o ≤ n) : (ofO o).raw n = true := by
 cases o with
 | none =>
  show RN.raw n .zero = true
  have h0 : decide ((⟨#[]⟩ : ByteArray).size ≤ n) = true := decide_eq_true (Nat.zero_le _)
  show (decide ((⟨#[]⟩ : ByteArray).size ≤ n) && decide ((⟨#[]⟩ : ByteArray).size ≤ n) && decide ((⟨#[]⟩ : ByteArray).size ≤ n) && decide ((⟨#[]⟩ : ByteArray).size ≤ n) && decide ((⟨#[]⟩ : ByteArray).size ≤ n)) = true
  generalize decide ((⟨#[]⟩ : ByteArray).size ≤ n) = q at h0
  subst h0; rfl
 | some k => exact RN.ofK_raw k h
theorem osz_toO {x : RN} {n : Nat} (h : x.raw n = true) : osz (toO x) ≤ n := by
 cases e : toO x with
 | none => exact Nat.zero_le _
 | some k => exact l_sz (toO_l e).2 h
end Go.Fw
open Go
namespace Go.Fw
set_option maxRecDepth 100000
theorem raw_of {x : RN} {k : K} {n : Nat} (h : toO x = some k) (hx : x.raw n = true) : k.sz ≤ n := l_sz (toO_l h).2 hx
def oX (x y z : Option K) (t : Int) (b : Bool) : Option K := match x, y, z with
 | some x, some y, some _ => some (mvX x y t b)
 | _, _, _ => none
def oY (x y z : Option K) (t : Int) (b : Bool) : Option K := match x, y, z with
 | some x, some y, some _ => some (mvY x y t b)
 | _, _, _ => none
def oZ (x y z : Option K) : Option K := match x, y, z with
 | some _, some _, some z => some z
 | _, _, _ => none
noncomputable def nX (x y z : RN) (t : Int) (b : Bool) : RN := ofO (oX (toO x) (toO y) (toO z) t b)
noncomputable def nY (x y z : RN) (t : Int) (b : Bool) : RN := ofO (oY (toO x) (toO y) (toO z) t b)
noncomputable def nZ (x y z : RN) : RN := ofO (oZ (toO x) (toO y) (toO z))
theorem vec_ok {x y z : RN} {k l m : K} (hx : toO x = some k) (hy : toO y = some l) (hz : toO z = some m) : vecR x y z = vecC k l m := by
 unfold vecR vecC
 rw [(toO_l hx).2, (toO_l hy).2, (toO_l hz).2]
theorem ok3_none {x y z : RN} (h : toO x = none ∨ toO y = none ∨ toO z = none) : ok3 x y z = false := by
 unfold ok3
 rcases h with h | h | h <;> rw [toO_none h] <;> simp
theorem WMov_r (x y z : RN) (t : Int) (b : Bool) (ht : validM t = true) (h : raw3 100000 x y z = true) :
    PCall P 53 [vecR x y z, .agg [ci64 t, .lit (.bool b)]] (vecR (nX x y z t b) (nY x y z t b) (nZ x y z)) := by
 unfold nX nY nZ
 obtain ⟨hx, hy, hz⟩ := raw3_iff.1 h
 have h6 : raw3 1000000 x y z = true := raw3_iff.2 ⟨RN.raw_mono hx (by decide), RN.raw_mono hy (by decide), RN.raw_mono hz (by decide)⟩
 cases ex : toO x with
 | none => exact WMov_bad x y z t b (ok3_none (.inl ex)) h6
 | some k =>
  cases ey : toO y with
  | none => exact WMov_bad x y z t b (ok3_none (.inr (.inl ey))) h6
  | some l =>
   cases ez : toO z with
   | none => exact WMov_bad x y z t b (ok3_none (.inr (.inr ez))) h6
   | some m =>
    rw [vec_ok ex ey ez]
    have a := raw_of ex hx
    have b' := raw_of ey hy
    have c := raw_of ez hz
    exact WMove_K k l m t b ht (by omega) (by omega) (by omega)
abbrev rnB (x y : RN) : Bool := x.b0 == y.b0 && (x.s0 == y.s0 && true) && (x.b1 == y.b1 && (x.s1 == y.s1 && true) && (x.b2 == y.b2 && (x.s2 == y.s2 && true) && (x.b3 == y.b3 && (x.s3 == y.s3 && true) && true))) && (x.b4 == y.b4 && (x.s4 == y.s4 && true) && true)
theorem rnB_iff {x y : RN} : rnB x y = true ↔ x = y := by
 cases x
 cases y
 simp only [rnB, ba_beq, Bool.and_eq_true, beq_iff_eq, and_true, RN.mk.injEq, decide_eq_true_eq]
 constructor
 · rintro ⟨⟨h0, h1, h2, h3⟩, h4⟩
   exact ⟨h0.1, h0.2, h1.1, h1.2, h2.1, h2.2, h3.1, h3.2, h4.1, h4.2⟩
 · rintro ⟨a, b, c, d, e, f, g, h, i, j⟩
   exact ⟨⟨⟨a, b⟩, ⟨c, d⟩, ⟨e, f⟩, ⟨g, h⟩⟩, i, j⟩
end Go.Fw
open Go
namespace Go.Fw
set_option maxRecDepth 100000
theorem sz_mvX (x y : K) (t : Int) (b : Bool) (n : Nat) (hx : x.sz ≤ n) (hy : y.sz ≤ n) : (mvX x y t b).sz ≤ 2 * n + 5 ∧ (mvY x y t b).sz ≤ 2 * n + 5 := by
 have c := sz_cos t
 have s := sz_sin t
 have hy' : (if b then -y else y).sz ≤ n := by cases b <;> simp only [Bool.false_eq_true, if_false, if_true, K.sz_neg] <;> exact hy
 have m1 := K.sz_mul x (cosK t)
 have m2 := K.sz_mul (if b then -y else y) (sinK t)
 have m3 := K.sz_mul x (sinK t)
 have m4 := K.sz_mul (if b then -y else y) (cosK t)
 have a1 := K.sz_sub (x * cosK t) ((if b then -y else y) * sinK t)
 have a2 := K.sz_add (x * sinK t) ((if b then -y else y) * cosK t)
 unfold mvX mvY
 omega
theorem raw_X {x y z : RN} {n : Nat} (t : Int) (b : Bool) (h : raw3 n x y z = true) : raw3 (2 * n + 5) (nX x y z t b) (nY x y z t b) (nZ x y z) = true := by
 obtain ⟨hx, hy, hz⟩ := raw3_iff.1 h
 have h1 := osz_toO hx
 have h2 := osz_toO hy
 have h3 := osz_toO hz
 refine raw3_iff.2 ⟨ofO_raw ?_, ofO_raw ?_, ofO_raw ?_⟩
 · cases e1 : toO x <;> cases e2 : toO y <;> cases e3 : toO z <;> first | exact Nat.zero_le _ | skip
   rw [e1] at h1
   rw [e2] at h2
   exact (sz_mvX _ _ t b n h1 h2).1
 · cases e1 : toO x <;> cases e2 : toO y <;> cases e3 : toO z <;> first | exact Nat.zero_le _ | skip
   rw [e1] at h1
   rw [e2] at h2
   exact (sz_mvX _ _ t b n h1 h2).2
 · cases e1 : toO x <;> cases e2 : toO y <;> cases e3 : toO z <;> first | exact Nat.zero_le _ | skip
   rw [e3] at h3
   exact Nat.le_trans h3 (by omega)
theorem raw3_mono {x y z : RN} {n m : Nat} (h : raw3 n x y z = true) (hm : n ≤ m) : raw3 m x y z = true := by
 obtain ⟨hx, hy, hz⟩ := raw3_iff.1 h
 exact raw3_iff.2 ⟨RN.raw_mono hx hm, RN.raw_mono hy hm, RN.raw_mono hz hm⟩
theorem rn_eq {x y : RN} (h : x = y) : rnB x y = true := rnB_iff.2 h
end Go.Fw
open Go
namespace Go.Fw
set_option maxRecDepth 100000
def threeC (a b c : Int) (x y z : RN) : CV := .agg (.lit (.int .u8 a) :: .lit (.int .u8 b) :: .lit (.int .u8 c) :: (x.l ++ (y.l ++ z.l)))
end Go.Fw
open Go IntKind
namespace Go.Fw
set_option maxRecDepth 100000
theorem LA_p4 (a b c : Int) (x y z : RN) (h1 : (!((compM (compM (a % 24) (decide (a ≥ 128)) (b % 24) (decide (b ≥ 128))).1 (compM (a % 24) (decide (a ≥ 128)) (b % 24) (decide (b ≥ 128))).2 (c % 24) (decide (c ≥ 128))).1 == (compM (a % 24) (decide (a ≥ 128)) (compM (b % 24) (decide (b ≥ 128)) (c % 24) (decide (c ≥ 128))).1 (compM (b % 24) (decide (b ≥ 128)) (c % 24) (decide (c ≥ 128))).2).1 && ((compM (compM (a % 24) (decide (a ≥ 128)) (b % 24) (decide (b ≥ 128))).1 (compM (a % 24) (decide (a ≥ 128)) (b % 24) (decide (b ≥ 128))).2 (c % 24) (decide (c ≥ 128))).2 == (compM (a % 24) (decide (a ≥ 128)) (compM (b % 24) (decide (b ≥ 128)) (c % 24) (decide (c ≥ 128))).1 (compM (b % 24) (decide (b ≥ 128)) (c % 24) (decide (c ≥ 128))).2).2 && true))) = false) (h2 : (!((compM (a % 24) (decide (a ≥ 128)) (invM (a % 24) (decide (a ≥ 128))).1 (invM (a % 24) (decide (a ≥ 128))).2).1 == 0 && ((compM (a % 24) (decide (a ≥ 128)) (invM (a % 24) (decide (a ≥ 128))).1 (invM (a % 24) (decide (a ≥ 128))).2).2 == false && true))) = false) (h3 : (!((compM (invM (a % 24) (decide (a ≥ 128))).1 (invM (a % 24) (decide (a ≥ 128))).2 (a % 24) (decide (a ≥ 128))).1 == 0 && ((compM (invM (a % 24) (decide (a ≥ 128))).1 (invM (a % 24) (decide (a ≥ 128))).2 (a % 24) (decide (a ≥ 128))).2 == false && true))) = false) (h4 : (raw3 12 x y z) = true) (s7_0 : (Lit.int u8 a).wf = true) (s10_0 : (Lit.int u8 b).wf = true) (s13_0 : (Lit.int u8 c).wf = true) (s58_0 : validM (a % 24) = true) (s58_1 : raw3 100000 x y z = true) (s60_0 : validM (b % 24) = true) (s60_1 : raw3 100000 (nX x y z (a % 24) (decide (a ≥ 128))) (nY x y z (a % 24) (decide (a ≥ 128))) (nZ x y z) = true) (s65_0 : validM (compM (a % 24) (decide (a ≥ 128)) (b % 24) (decide (b ≥ 128))).1 = true) (s65_1 : raw3 100000 x y z = true) : PCall P 10 [threeC a b c x y z] (.lit (.bool (rnB (nX (nX x y z (a % 24) (decide (a ≥ 128))) (nY x y z (a % 24) (decide (a ≥ 128))) (nZ x y z) (b % 24) (decide (b ≥ 128))) (nX x y z (compM (a % 24) (decide (a ≥ 128)) (b % 24) (decide (b ≥ 128))).1 (compM (a % 24) (decide (a ≥ 128)) (b % 24) (decide (b ≥ 128))).2) && (rnB (nY (nX x y z (a % 24) (decide (a ≥ 128))) (nY x y z (a % 24) (decide (a ≥ 128))) (nZ x y z) (b % 24) (decide (b ≥ 128))) (nY x y z (compM (a % 24) (decide (a ≥ 128)) (b % 24) (decide (b ≥ 128))).1 (compM (a % 24) (decide (a ≥ 128)) (b % 24) (decide (b ≥ 128))).2) && (rnB (nZ (nX x y z (a % 24) (decide (a ≥ 128))) (nY x y z (a % 24) (decide (a ≥ 128))) (nZ x y z)) (nZ x y z) && true))))) :=
 pcallT (.r 2 (aw_p1) (.r 7 (motT_spec (a) s7_0) (.r 10 (motT_spec (b) s10_0) (.r 13 (motT_spec (c) s13_0) (.c (lq 2 2) (.c (lq 2 2) (.c (lq 2 2) (.c (lq 30 30) (.r 26 (WComp_spec (a % 24) (decide (a ≥ 128)) (b % 24) (decide (b ≥ 128))) (.r 28 (WComp_spec ((compM (a % 24) (decide (a ≥ 128)) (b % 24) (decide (b ≥ 128))).1) ((compM (a % 24) (decide (a ≥ 128)) (b % 24) (decide (b ≥ 128))).2) (c % 24) (decide (c ≥ 128))) (.r 32 (WComp_spec (b % 24) (decide (b ≥ 128)) (c % 24) (decide (c ≥ 128))) (.r 33 (WComp_spec (a % 24) (decide (a ≥ 128)) ((compM (b % 24) (decide (b ≥ 128)) (c % 24) (decide (c ≥ 128))).1) ((compM (b % 24) (decide (b ≥ 128)) (c % 24) (decide (c ≥ 128))).2)) (.b 35 h1 (.r 38 (WInv_spec (a % 24) (decide (a ≥ 128))) (.r 39 (WComp_spec (a % 24) (decide (a ≥ 128)) ((invM (a % 24) (decide (a ≥ 128))).1) ((invM (a % 24) (decide (a ≥ 128))).2)) (.b 43 h2 (.r 45 (WInv_spec (a % 24) (decide (a ≥ 128))) (.r 47 (WComp_spec ((invM (a % 24) (decide (a ≥ 128))).1) ((invM (a % 24) (decide (a ≥ 128))).2) (a % 24) (decide (a ≥ 128))) (.b 51 h3 (.r 53 ((few_c (x) (y) (z)).eqB h4) (.r 58 (WMov_r (x) (y) (z) (a % 24) (decide (a ≥ 128)) s58_0 s58_1) (.r 60 (WMov_r (nX x y z (a % 24) (decide (a ≥ 128))) (nY x y z (a % 24) (decide (a ≥ 128))) (nZ x y z) (b % 24) (decide (b ≥ 128)) s60_0 s60_1) (.r 64 (WComp_spec (a % 24) (decide (a ≥ 128)) (b % 24) (decide (b ≥ 128))) (.r 65 (WMov_r (x) (y) (z) ((compM (a % 24) (decide (a ≥ 128)) (b % 24) (decide (b ≥ 128))).1) ((compM (a % 24) (decide (a ≥ 128)) (b % 24) (decide (b ≥ 128))).2) s65_0 s65_1) .nil)))))))))))))))))))))))) (by kernel_rfl)
theorem LA_p5 (a b c : Int) (x y z : RN) (h1 : (!((compM (compM (a % 24) (decide (a ≥ 128)) (b % 24) (decide (b ≥ 128))).1 (compM (a % 24) (decide (a ≥ 128)) (b % 24) (decide (b ≥ 128))).2 (c % 24) (decide (c ≥ 128))).1 == (compM (a % 24) (decide (a ≥ 128)) (compM (b % 24) (decide (b ≥ 128)) (c % 24) (decide (c ≥ 128))).1 (compM (b % 24) (decide (b ≥ 128)) (c % 24) (decide (c ≥ 128))).2).1 && ((compM (compM (a % 24) (decide (a ≥ 128)) (b % 24) (decide (b ≥ 128))).1 (compM (a % 24) (decide (a ≥ 128)) (b % 24) (decide (b ≥ 128))).2 (c % 24) (decide (c ≥ 128))).2 == (compM (a % 24) (decide (a ≥ 128)) (compM (b % 24) (decide (b ≥ 128)) (c % 24) (decide (c ≥ 128))).1 (compM (b % 24) (decide (b ≥ 128)) (c % 24) (decide (c ≥ 128))).2).2 && true))) = false) (h2 : (!((compM (a % 24) (decide (a ≥ 128)) (invM (a % 24) (decide (a ≥ 128))).1 (invM (a % 24) (decide (a ≥ 128))).2).1 == 0 && ((compM (a % 24) (decide (a ≥ 128)) (invM (a % 24) (decide (a ≥ 128))).1 (invM (a % 24) (decide (a ≥ 128))).2).2 == false && true))) = false) (h3 : (!((compM (invM (a % 24) (decide (a ≥ 128))).1 (invM (a % 24) (decide (a ≥ 128))).2 (a % 24) (decide (a ≥ 128))).1 == 0 && ((compM (invM (a % 24) (decide (a ≥ 128))).1 (invM (a % 24) (decide (a ≥ 128))).2 (a % 24) (decide (a ≥ 128))).2 == false && true))) = false) (h4 : (raw3 12 x y z) = false) (s7_0 : (Lit.int u8 a).wf = true) (s10_0 : (Lit.int u8 b).wf = true) (s13_0 : (Lit.int u8 c).wf = true) : PCall P 10 [threeC a b c x y z] (.lit (.bool true)) :=
 pcallT (.r 2 (aw_p1) (.r 7 (motT_spec (a) s7_0) (.r 10 (motT_spec (b) s10_0) (.r 13 (motT_spec (c) s13_0) (.c (lq 2 2) (.c (lq 2 2) (.c (lq 2 2) (.c (lq 30 30) (.r 26 (WComp_spec (a % 24) (decide (a ≥ 128)) (b % 24) (decide (b ≥ 128))) (.r 28 (WComp_spec ((compM (a % 24) (decide (a ≥ 128)) (b % 24) (decide (b ≥ 128))).1) ((compM (a % 24) (decide (a ≥ 128)) (b % 24) (decide (b ≥ 128))).2) (c % 24) (decide (c ≥ 128))) (.r 32 (WComp_spec (b % 24) (decide (b ≥ 128)) (c % 24) (decide (c ≥ 128))) (.r 33 (WComp_spec (a % 24) (decide (a ≥ 128)) ((compM (b % 24) (decide (b ≥ 128)) (c % 24) (decide (c ≥ 128))).1) ((compM (b % 24) (decide (b ≥ 128)) (c % 24) (decide (c ≥ 128))).2)) (.b 35 h1 (.r 38 (WInv_spec (a % 24) (decide (a ≥ 128))) (.r 39 (WComp_spec (a % 24) (decide (a ≥ 128)) ((invM (a % 24) (decide (a ≥ 128))).1) ((invM (a % 24) (decide (a ≥ 128))).2)) (.b 43 h2 (.r 45 (WInv_spec (a % 24) (decide (a ≥ 128))) (.r 47 (WComp_spec ((invM (a % 24) (decide (a ≥ 128))).1) ((invM (a % 24) (decide (a ≥ 128))).2) (a % 24) (decide (a ≥ 128))) (.b 51 h3 (.r 53 ((few_c (x) (y) (z)).eqB h4) .nil)))))))))))))))))))) (by kernel_rfl)
end Go.Fw
open Go
namespace Go.Fw
set_option maxRecDepth 100000
theorem compM_eq {t t' : Int} (h : validM t = true) (h' : validM t' = true) (b b' : Bool) : compM t b t' b' = ((turned t b' + t') % 24, b != b') := by
 unfold compM; rw [h, h']; rfl
theorem compM_valid {t t' : Int} (h : validM t = true) (h' : validM t' = true) (b b' : Bool) : validM (compM t b t' b').1 = true := by
 rw [compM_eq h h']
 exact validM_iff.2 (show 0 ≤ (turned t b' + t') % 24 ∧ (turned t b' + t') % 24 < 24 by omega)
theorem comp_assoc {A B C : Int} (ha : validM A = true) (hb : validM B = true) (hc : validM C = true) (f g h : Bool) :
    compM (compM A f B g).1 (compM A f B g).2 C h = compM A f (compM B g C h).1 (compM B g C h).2 := by
 have h1 := compM_valid ha hb f g
 have h2 := compM_valid hb hc g h
 rw [compM_eq h1 hc, compM_eq ha h2, compM_eq ha hb, compM_eq hb hc]
 have := validM_iff.1 ha
 have := validM_iff.1 hb
 have := validM_iff.1 hc
 rw [Prod.mk.injEq]
 refine ⟨?_, by cases f <;> cases g <;> cases h <;> rfl⟩
 cases g <;> cases h
 · show ((A % 24 + B) % 24 % 24 + C) % 24 = (A % 24 + (B % 24 + C) % 24) % 24; omega
 · show (-((A % 24 + B) % 24 % 24) + C) % 24 = (-(A % 24) + (-(B % 24) + C) % 24) % 24; omega
 · show ((-(A % 24) + B) % 24 % 24 + C) % 24 = (-(A % 24) + (B % 24 + C) % 24) % 24; omega
 · show (-((-(A % 24) + B) % 24 % 24) + C) % 24 = (A % 24 + (-(B % 24) + C) % 24) % 24; omega
theorem invM_eq {t : Int} (h : validM t = true) (b : Bool) : invM t b = if b then (t, true) else ((-t) % 24, false) := by
 unfold invM; rw [h]; rfl
theorem invM_valid {t : Int} (h : validM t = true) (b : Bool) : validM (invM t b).1 = true := by
 rw [invM_eq h]
 cases b
 · exact validM_iff.2 (show 0 ≤ (-t) % 24 ∧ (-t) % 24 < 24 by omega)
 · exact h
theorem comp_inv {t : Int} (h : validM t = true) (b : Bool) : compM t b (invM t b).1 (invM t b).2 = (0, false) ∧ compM (invM t b).1 (invM t b).2 t b = (0, false) := by
 have h1 := invM_valid h b
 have := validM_iff.1 h
 rw [compM_eq h h1, compM_eq h1 h, invM_eq h]
 cases b
 · simp only [turned, Bool.false_eq_true, if_false, bne_self_eq_false, Prod.mk.injEq, and_true]
   omega
 · simp only [turned, if_true, bne_self_eq_false, Prod.mk.injEq, and_true]
   omega
theorem k_mm (x y c s d t : K) : (x * c - y * s) * d - (x * s + y * c) * t = x * (c * d - s * t) - y * (s * d + c * t) :=
 (show ∀ ρ : Nat → K, (ρ 0 * ρ 2 - ρ 1 * ρ 3) * ρ 4 - (ρ 0 * ρ 3 + ρ 1 * ρ 2) * ρ 5 = ρ 0 * (ρ 2 * ρ 4 - ρ 3 * ρ 5) - ρ 1 * (ρ 3 * ρ 4 + ρ 2 * ρ 5) from fun ρ => CR.ring ρ rfl) (CR.vr [x, y, c, s, d, t])
theorem k_mn (x y c s d t : K) : (x * c - y * s) * t + (x * s + y * c) * d = x * (s * d + c * t) + y * (c * d - s * t) :=
 (show ∀ ρ : Nat → K, (ρ 0 * ρ 2 - ρ 1 * ρ 3) * ρ 5 + (ρ 0 * ρ 3 + ρ 1 * ρ 2) * ρ 4 = ρ 0 * (ρ 3 * ρ 4 + ρ 2 * ρ 5) + ρ 1 * (ρ 2 * ρ 4 - ρ 3 * ρ 5) from fun ρ => CR.ring ρ rfl) (CR.vr [x, y, c, s, d, t])
theorem k_nm (x y c s d t : K) : (x * c - y * s) * d - -(x * s + y * c) * t = x * (c * d - -s * t) - -y * (-s * d + c * t) :=
 (show ∀ ρ : Nat → K, (ρ 0 * ρ 2 - ρ 1 * ρ 3) * ρ 4 - -(ρ 0 * ρ 3 + ρ 1 * ρ 2) * ρ 5 = ρ 0 * (ρ 2 * ρ 4 - -ρ 3 * ρ 5) - -ρ 1 * (-ρ 3 * ρ 4 + ρ 2 * ρ 5) from fun ρ => CR.ring ρ rfl) (CR.vr [x, y, c, s, d, t])
theorem k_no (x y c s d t : K) : (x * c - y * s) * t + -(x * s + y * c) * d = x * (-s * d + c * t) + -y * (c * d - -s * t) :=
 (show ∀ ρ : Nat → K, (ρ 0 * ρ 2 - ρ 1 * ρ 3) * ρ 5 + -(ρ 0 * ρ 3 + ρ 1 * ρ 2) * ρ 4 = ρ 0 * (-ρ 3 * ρ 4 + ρ 2 * ρ 5) + -ρ 1 * (ρ 2 * ρ 4 - -ρ 3 * ρ 5) from fun ρ => CR.ring ρ rfl) (CR.vr [x, y, c, s, d, t])
theorem k_neg (y : K) : - -y = y := (show ∀ ρ : Nat → K, - -ρ 0 = ρ 0 from fun ρ => CR.ring ρ rfl) (CR.vr [y])
theorem mv_mv (x y : K) {A B : Int} (ha : validM A = true) (hb : validM B = true) (f g : Bool) :
    mvX (mvX x y A f) (mvY x y A f) B g = mvX x y (compM A f B g).1 (compM A f B g).2 ∧ mvY (mvX x y A f) (mvY x y A f) B g = mvY x y (compM A f B g).1 (compM A f B g).2 := by
 rw [compM_eq ha hb]
 have ea := validM_iff.1 ha
 cases g
 · have e : ((turned A false + B) % 24) % 24 = (A + B) % 24 := by simp only [turned, Bool.false_eq_true, if_false]; omega
   have ec := cosK_cong e
   have es := sinK_cong e
   rw [cos_add] at ec
   rw [sin_add] at es
   have hf : (f != false) = f := by cases f <;> rfl
   unfold mvX mvY
   rw [hf, ec, es]
   simp only [Bool.false_eq_true, if_false]
   exact ⟨k_mm .., k_mn ..⟩
 · have e : ((turned A true + B) % 24) % 24 = (-A + B) % 24 := by simp only [turned, if_true]; omega
   have ec := cosK_cong e
   have es := sinK_cong e
   rw [cos_add, cos_neg, sin_neg] at ec
   rw [sin_add, cos_neg, sin_neg] at es
   have hf : (if (f != true) = true then -y else y) = -(if f = true then -y else y) := by
    cases f
    · rfl
    · show y = - -y
      rw [k_neg]
   unfold mvX mvY
   rw [ec, es, hf]
   simp only [if_true]
   exact ⟨k_nm .., k_no ..⟩
theorem group_vec (x y z : RN) {A B : Int} (ha : validM A = true) (hb : validM B = true) (f g : Bool) :
    nX (nX x y z A f) (nY x y z A f) (nZ x y z) B g = nX x y z (compM A f B g).1 (compM A f B g).2 ∧ nY (nX x y z A f) (nY x y z A f) (nZ x y z) B g = nY x y z (compM A f B g).1 (compM A f B g).2 ∧ nZ (nX x y z A f) (nY x y z A f) (nZ x y z) = nZ x y z := by
 unfold nX nY nZ
 simp only [toO_ofO]
 cases toO x <;> cases toO y <;> cases toO z <;> first | exact ⟨rfl, rfl, rfl⟩ | skip
 rename_i k l m
 obtain ⟨h1, h2⟩ := mv_mv k l ha hb f g
 refine ⟨?_, ?_, rfl⟩
 · show ofO (some _) = ofO (some _); rw [h1]
 · show ofO (some _) = ofO (some _); rw [h2]
theorem pair_cond {p q : Int × Bool} (h : p = q) : (!(p.1 == q.1 && (p.2 == q.2 && true))) = false := by subst h; simp
theorem group_true (a b c : Int) (wa : (Lit.int .u8 a).wf = true) (wb : (Lit.int .u8 b).wf = true) (wc : (Lit.int .u8 c).wf = true) (x y z : RN) : PCall P 10 [threeC a b c x y z] (.lit (.bool true)) := by
 have va : validM (a % 24) = true := validM_iff.2 (by omega)
 have vb : validM (b % 24) = true := validM_iff.2 (by omega)
 have vc : validM (c % 24) = true := validM_iff.2 (by omega)
 have h1 := pair_cond (comp_assoc va vb vc (decide (a ≥ 128)) (decide (b ≥ 128)) (decide (c ≥ 128)))
 have h2 := pair_cond (comp_inv va (decide (a ≥ 128))).1
 have h3 := pair_cond (comp_inv va (decide (a ≥ 128))).2
 cases g : raw3 12 x y z
 · exact LA_p5 a b c x y z h1 h2 h3 g wa wb wc
 · refine (LA_p4 a b c x y z h1 h2 h3 g wa wb wc va (raw3_mono g (by decide)) vb (raw3_mono (raw_X _ _ g) (by decide)) (compM_valid va vb _ _) (raw3_mono g (by decide))).eqB ?_
   obtain ⟨e1, e2, e3⟩ := group_vec x y z va vb (decide (a ≥ 128)) (decide (b ≥ 128))
   rw [rn_eq e1, rn_eq e2, rn_eq e3]; rfl
end Go.Fw
open Go Go.Proofs Go.Proofs.YtcafjpldfnegiaaGreatDoor
namespace Go.Fw
set_option maxRecDepth 100000
def RN.v (x : RN) : List Value := [.bool x.b0, .string x.s0, .bool x.b1, .string x.s1, .bool x.b2, .string x.s2, .bool x.b3, .string x.s3, .bool x.b4, .string x.s4]
abbrev vecK : List CT := [.b, .s, .b, .s, .b, .s, .b, .s, .b, .s, .b, .s, .b, .s, .b, .s, .b, .s, .b, .s, .b, .s, .b, .s, .b, .s, .b, .s, .b, .s]
theorem num_open {ts : List CT} {l : List Value} (h : CTs (.b :: .s :: .b :: .s :: .b :: .s :: .b :: .s :: .b :: .s :: ts) l) : ∃ (x : RN) (m : List Value), l = x.v ++ m ∧ CTs ts m := by
 simp only [CTs, CT.ok] at h
 obtain ⟨_, _, rfl, ⟨b0, rfl⟩, _, _, rfl, ⟨s0, rfl⟩, _, _, rfl, ⟨b1, rfl⟩, _, _, rfl, ⟨s1, rfl⟩, _, _, rfl, ⟨b2, rfl⟩, _, _, rfl, ⟨s2, rfl⟩, _, _, rfl, ⟨b3, rfl⟩, _, _, rfl, ⟨s3, rfl⟩, _, _, rfl, ⟨b4, rfl⟩, _, m, rfl, ⟨s4, rfl⟩, hm⟩ := h
 exact ⟨⟨b0, s0, b1, s1, b2, s2, b3, s3, b4, s4⟩, m, rfl, hm⟩
theorem vec_open {ts : List CT} {l : List Value} (h : CTs (vecK ++ ts) l) : ∃ (x y z : RN) (m : List Value), l = x.v ++ (y.v ++ (z.v ++ m)) ∧ CTs ts m := by
 obtain ⟨x, m1, rfl, h1⟩ := num_open h
 obtain ⟨y, m2, rfl, h2⟩ := num_open h1
 obtain ⟨z, m3, rfl, h3⟩ := num_open h2
 exact ⟨x, y, z, m3, rfl, h3⟩
theorem vec_open' {l : List Value} (h : CTs vecK l) : ∃ x y z : RN, l = x.v ++ (y.v ++ z.v) := by
 obtain ⟨x, y, z, m, rfl, h4⟩ := vec_open (ts := []) h
 obtain rfl : m = [] := h4
 exact ⟨x, y, z, by simp⟩
end Go.Fw
open Go Go.Proofs Go.Proofs.YtcafjpldfnegiaaGreatDoor
namespace Go.Fw
set_option maxRecDepth 100000
theorem threeT : flatTy Tryz.prog 8 66 = some (.i .u8 :: .i .u8 :: .i .u8 :: vecK) := by kernel_rfl
theorem three_open {l : List Value} (h : CTs (.i .u8 :: .i .u8 :: .i .u8 :: vecK) l) : ∃ (a b c : Int) (_ : (Lit.int .u8 a).wf = true) (_ : (Lit.int .u8 b).wf = true) (_ : (Lit.int .u8 c).wf = true) (x y z : RN), l = .int .u8 a :: .int .u8 b :: .int .u8 c :: (x.v ++ (y.v ++ z.v)) := by
 obtain ⟨_, _, rfl, ⟨a, rfl, wa⟩, _, _, rfl, ⟨b, rfl, wb⟩, _, m, rfl, ⟨c, rfl, wc⟩, hm⟩ := h
 obtain ⟨x, y, z, rfl⟩ := vec_open' hm
 exact ⟨a, b, c, wa, wb, wc, x, y, z, rfl⟩
theorem rep_three (I : Imm) (a b c : Int) (x y z : RN) : CV.rep I (threeC a b c x y z) (.agg (.int .u8 a :: .int .u8 b :: .int .u8 c :: (x.v ++ (y.v ++ z.v))).toArray) := rep_agg I (.int .u8 a :: .int .u8 b :: .int .u8 c :: (x.v ++ (y.v ++ z.v)))
end Go.Fw
open Go Go.Proofs Go.Proofs.YtcafjpldfnegiaaGreatDoor
namespace Go.Fw
open Go.ChangeShapes Go.WideShapes Go.ChangeAt Go.RowKit
set_option maxRecDepth 100000
theorem lawCall10 {H : Type} {enc : TypeId × Value → H} (W : World) (base : Nat) (args : Array Value) (ds gs : List (DataW H)) (before : List MemPlace)
    (hval : ∀ (j : Nat) t v, Tryz.f10.params[j]? = some t → args[j]? = some v → Value.okWide Tryz.prog W .any base t v)
    (hW : DataW.Whole enc Tryz.prog Tryz.f10.params.toList Rows.wheelGroupSpec.vars false W args.toList ds gs before) :
    Calls Tryz.prog 10 args W fun e W' => e = .returned (.bool true) ∧ Below W.heap.size W W' := by
 obtain ⟨p, q, hA, hV, _, _, _⟩ := hW
 rw [Tryz.params10] at hA hval
 obtain ⟨v0, vs0, d0, ds0, p0, q0, ha0, hd0, _, h0, r0⟩ := trodAll_cons hA
 obtain ⟨hz, hzd, _⟩ := trodAll_nil r0
 subst hz
 obtain rfl : args = #[v0] := by cases args; simp_all
 obtain ⟨cs0, rfl, hc0⟩ := open_flat 8 threeT (by kernel_rfl) (hval 0 66 v0 rfl rfl) h0
 obtain ⟨a0, b0, c0, wa0, wb0, wc0, x0, y0, z0, rfl⟩ := three_open hc0
 exact law_call (group_true a0 b0 c0 wa0 wb0 wc0 x0 y0 z0) ⟨_, _, rfl, rep_three _ _ _ _ _ _ _, rfl⟩
end Go.Fw
