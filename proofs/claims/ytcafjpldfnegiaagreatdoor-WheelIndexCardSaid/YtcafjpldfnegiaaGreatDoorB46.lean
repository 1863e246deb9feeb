/- A part of the proof that the law returns true for every input: an executor for the model's code, and what functions of the program compute. -/
import Derived.Test.YtcafjpldfnegiaaGreatDoorB38
import Derived.Test.YtcafjpldfnegiaaGreatDoorB40
open Go
namespace Go.Fw
/-- '==' of two numbers, as it is computed. -/
abbrev numB (x y : K) : Bool := decide (x.c0 < 0) == decide (y.c0 < 0) && (bytesOf x.c0.natAbs == bytesOf y.c0.natAbs && true) && (decide (x.c1 < 0) == decide (y.c1 < 0) && (bytesOf x.c1.natAbs == bytesOf y.c1.natAbs && true) && (decide (x.c2 < 0) == decide (y.c2 < 0) && (bytesOf x.c2.natAbs == bytesOf y.c2.natAbs && true) && (decide (x.c3 < 0) == decide (y.c3 < 0) && (bytesOf x.c3.natAbs == bytesOf y.c3.natAbs && true) && true))) && (decide (x.d < 0) == decide (y.d < 0) && (bytesOf x.d.natAbs == bytesOf y.d.natAbs && true) && true)
theorem numB_eq {x y : K} (h : x = y) : numB x y = true := by subst h; simp [numB, bytes_beq]
end Go.Fw
open Go
namespace Go.Fw
set_option maxRecDepth 100000
def sm3b (x : K) : Bool := decide (x.c0.natAbs < 256) && decide (x.c1.natAbs < 256) && decide (x.c2.natAbs < 256) && decide (x.c3.natAbs < 256) && decide (x.d.natAbs < 256)
theorem Sm3.b {x : K} (h : sm3b x = true) : Sm3 x := by
  simp only [sm3b, Bool.and_eq_true, decide_eq_true_eq] at h
  exact Sm3.of ⟨h.1.1.1.1, h.1.1.1.2, h.1.1.2, h.1.2, h.2⟩
theorem cosK_mod (i : Int) : cosK i = cosK (i % 24) := by simp only [cosK, Int.emod_emod_of_dvd i (Int.dvd_refl 24)]
theorem sinK_mod (i : Int) : sinK i = sinK (i % 24) := by simp only [sinK, Int.emod_emod_of_dvd i (Int.dvd_refl 24)]
theorem cosK_cong {i j : Int} (h : i % 24 = j % 24) : cosK i = cosK j := by rw [cosK_mod i, cosK_mod j, h]
theorem sinK_cong {i j : Int} (h : i % 24 = j % 24) : sinK i = sinK j := by rw [sinK_mod i, sinK_mod j, h]
theorem circ1 : ∀ i : _root_.Fin 24, cosK i.val * cosK i.val + sinK i.val * sinK i.val = K.ofInt 1 := by decide +kernel
theorem circ2 : ∀ i k : _root_.Fin 24, cosK (i.val + k.val) = cosK i.val * cosK k.val - sinK i.val * sinK k.val := by decide +kernel
theorem circ3 : ∀ i k : _root_.Fin 24, sinK (i.val + k.val) = sinK i.val * cosK k.val + cosK i.val * sinK k.val := by decide +kernel
theorem circ4 : ∀ i : _root_.Fin 24, sm3b (cosK i.val) = true ∧ sm3b (sinK i.val) = true := by decide +kernel
theorem circ5 : ∀ i k : _root_.Fin 24, (sm3b (cosK i.val * cosK k.val) = true ∧ sm3b (sinK i.val * sinK k.val) = true) ∧ sm3b (sinK i.val * cosK k.val) = true ∧ sm3b (cosK i.val * sinK k.val) = true := by decide +kernel
theorem circ6 : ∀ i : _root_.Fin 24, cosK (-i.val) = cosK i.val ∧ sinK (-i.val) = -sinK i.val := by decide +kernel
theorem ex24 (i : Int) : ∃ a : _root_.Fin 24, i % 24 = (a.val : Int) := ⟨⟨(i % 24).toNat, by omega⟩, by simp only; omega⟩
theorem cos_at {i : Int} {a : _root_.Fin 24} (h : i % 24 = (a.val : Int)) : cosK i = cosK a.val := by rw [cosK_mod i, h]
theorem sin_at {i : Int} {a : _root_.Fin 24} (h : i % 24 = (a.val : Int)) : sinK i = sinK a.val := by rw [sinK_mod i, h]
theorem cos_sin_one (i : Int) : cosK i * cosK i + sinK i * sinK i = K.ofInt 1 := by
  obtain ⟨a, ha⟩ := ex24 i
  rw [cos_at ha, sin_at ha]; exact circ1 a
theorem cos_add (i k : Int) : cosK (i + k) = cosK i * cosK k - sinK i * sinK k := by
  obtain ⟨a, ha⟩ := ex24 i
  obtain ⟨b, hb⟩ := ex24 k
  rw [cos_at ha, sin_at ha, cos_at hb, sin_at hb, ← circ2]
  exact cosK_cong (by omega)
theorem sin_add (i k : Int) : sinK (i + k) = sinK i * cosK k + cosK i * sinK k := by
  obtain ⟨a, ha⟩ := ex24 i
  obtain ⟨b, hb⟩ := ex24 k
  rw [cos_at ha, sin_at ha, cos_at hb, sin_at hb, ← circ3]
  exact sinK_cong (by omega)
theorem sin_cos (i : Int) : sinK i = cosK (i - 6) := cosK_cong (by omega)
theorem cos_neg (i : Int) : cosK (-i) = cosK i := by
  obtain ⟨a, ha⟩ := ex24 i
  rw [cos_at ha, ← (circ6 a).1]
  exact cosK_cong (by omega)
theorem sin_neg (i : Int) : sinK (-i) = -sinK i := by
  obtain ⟨a, ha⟩ := ex24 i
  rw [sin_at ha, ← (circ6 a).2]
  exact sinK_cong (by omega)
theorem Sm3_cos (i : Int) : Sm3 (cosK i) := by
  obtain ⟨a, ha⟩ := ex24 i
  rw [cos_at ha]; exact Sm3.b (circ4 a).1
theorem Sm3_sin (i : Int) : Sm3 (sinK i) := by
  obtain ⟨a, ha⟩ := ex24 i
  rw [sin_at ha]; exact Sm3.b (circ4 a).2
theorem Sm3_prods (i k : Int) : (Sm3 (cosK i * cosK k) ∧ Sm3 (sinK i * sinK k)) ∧ Sm3 (sinK i * cosK k) ∧ Sm3 (cosK i * sinK k) := by
  obtain ⟨a, ha⟩ := ex24 i
  obtain ⟨b, hb⟩ := ex24 k
  rw [cos_at ha, sin_at ha, cos_at hb, sin_at hb]
  obtain ⟨⟨h1, h2⟩, h3, h4⟩ := circ5 a b
  exact ⟨⟨Sm3.b h1, Sm3.b h2⟩, Sm3.b h3, Sm3.b h4⟩
end Go.Fw
open Go
namespace Go.Fw
set_option maxRecDepth 100000
theorem circle_run (i k m n : Int) (hm : m = IntKind.i64.wrap i) (hn : n = IntKind.i64.wrap k) (bm : -1000 < m ∧ m < 1000) (bn : -1000 < n ∧ n < 1000)
    (h1 : numB (cosK m * cosK m + sinK m * sinK m) (K.ofInt 1) = true) (h2 : numB (cosK (IntKind.i64.wrap (m + n))) (cosK m * cosK n - sinK m * sinK n) = true) (h3 : numB (sinK (IntKind.i64.wrap (m + n))) (sinK m * cosK n + cosK m * sinK n) = true)
    (h4 : numB (sinK m) (cosK (IntKind.i64.wrap (m - 6))) = true) (h5 : numB (cosK (IntKind.i64.wrap (0 - m))) (cosK m) = true) (h6 : numB (sinK (IntKind.i64.wrap (0 - m))) (-sinK m) = true) :
    PCall P 5 [.lit (.int .i8 i), .lit (.int .i8 k)] (.lit (.bool (numB (cosK (IntKind.i64.wrap (m + 24))) (cosK m)))) := by
  subst hm hn
  exact pcallR (ors := [(1, Or.r (CV.lit (Value.bool true))), (11, Or.r (numC (cosK (IntKind.i64.wrap i)))), (13, Or.r (numC (sinK (IntKind.i64.wrap i)))), (15, Or.r (numC (cosK (IntKind.i64.wrap k)))), (17, Or.r (numC (sinK (IntKind.i64.wrap k)))), (28, Or.r (numC (cosK (IntKind.i64.wrap i) * cosK (IntKind.i64.wrap i)))), (31, Or.r (numC (sinK (IntKind.i64.wrap i) * sinK (IntKind.i64.wrap i)))), (32, Or.r (numC (cosK (IntKind.i64.wrap i) * cosK (IntKind.i64.wrap i) + sinK (IntKind.i64.wrap i) * sinK (IntKind.i64.wrap i)))), (37, Or.r (numC (cosK (IntKind.i64.wrap i) * cosK (IntKind.i64.wrap k)))), (40, Or.r (numC (sinK (IntKind.i64.wrap i) * sinK (IntKind.i64.wrap k)))), (41, Or.r (numC (cosK (IntKind.i64.wrap i) * cosK (IntKind.i64.wrap k) - sinK (IntKind.i64.wrap i) * sinK (IntKind.i64.wrap k)))), (46, Or.r (numC (sinK (IntKind.i64.wrap i) * cosK (IntKind.i64.wrap k)))), (49, Or.r (numC (cosK (IntKind.i64.wrap i) * sinK (IntKind.i64.wrap k)))), (50, Or.r (numC (sinK (IntKind.i64.wrap i) * cosK (IntKind.i64.wrap k) + cosK (IntKind.i64.wrap i) * sinK (IntKind.i64.wrap k)))), (54, Or.r (CV.agg [CV.lit (Value.bool false), CV.lit (Value.string (bytesOf 1)), CV.lit (Value.bool false), CV.lit (Value.string (bytesOf 0)), CV.lit (Value.bool false), CV.lit (Value.string (bytesOf 0)), CV.lit (Value.bool false), CV.lit (Value.string (bytesOf 0)), CV.lit (Value.bool false), CV.lit (Value.string (bytesOf 1))])), (56, Or.b true), (60, Or.r (numC (cosK (IntKind.i64.wrap (IntKind.i64.wrap i + IntKind.i64.wrap k))))), (64, Or.b true), (68, Or.r (numC (sinK (IntKind.i64.wrap (IntKind.i64.wrap i + IntKind.i64.wrap k))))), (72, Or.b true), (74, Or.r (numC (sinK (IntKind.i64.wrap i)))), (77, Or.r (numC (cosK (IntKind.i64.wrap (IntKind.i64.wrap i - (6 : Int)))))), (80, Or.b true), (83, Or.r (numC (cosK (IntKind.i64.wrap ((0 : Int) - IntKind.i64.wrap i))))), (87, Or.b true), (90, Or.r (numC (sinK (IntKind.i64.wrap ((0 : Int) - IntKind.i64.wrap i))))), (92, Or.r (numC (-sinK (IntKind.i64.wrap i)))), (95, Or.b true), (98, Or.r (numC (cosK (IntKind.i64.wrap (IntKind.i64.wrap i + (24 : Int))))))]) (by kernel_rfl) (.cons (aw_p1) (.cons (WCos_spec (IntKind.i64.wrap i)) (.cons (WSin_spec (IntKind.i64.wrap i)) (.cons (WCos_spec (IntKind.i64.wrap k)) (.cons (WSin_spec (IntKind.i64.wrap k)) (.cons (Nat.le_refl 10) (.cons (Nat.le_refl 10) (.cons (Nat.le_refl 10) (.cons (Nat.le_refl 10) (.cons (RMul_s (cosK (IntKind.i64.wrap i)) (cosK (IntKind.i64.wrap i)) (Sm3_cos (IntKind.i64.wrap i)) (Sm3_cos (IntKind.i64.wrap i))) (.cons (RMul_s (sinK (IntKind.i64.wrap i)) (sinK (IntKind.i64.wrap i)) (Sm3_sin (IntKind.i64.wrap i)) (Sm3_sin (IntKind.i64.wrap i))) (.cons (RAdd_s (cosK (IntKind.i64.wrap i) * cosK (IntKind.i64.wrap i)) (sinK (IntKind.i64.wrap i) * sinK (IntKind.i64.wrap i)) (Sm3_prods (IntKind.i64.wrap i) (IntKind.i64.wrap i)).1.1 (Sm3_prods (IntKind.i64.wrap i) (IntKind.i64.wrap i)).1.2) (.cons (Nat.le_refl 10) (.cons (RMul_s (cosK (IntKind.i64.wrap i)) (cosK (IntKind.i64.wrap k)) (Sm3_cos (IntKind.i64.wrap i)) (Sm3_cos (IntKind.i64.wrap k))) (.cons (RMul_s (sinK (IntKind.i64.wrap i)) (sinK (IntKind.i64.wrap k)) (Sm3_sin (IntKind.i64.wrap i)) (Sm3_sin (IntKind.i64.wrap k))) (.cons (RSub_s (cosK (IntKind.i64.wrap i) * cosK (IntKind.i64.wrap k)) (sinK (IntKind.i64.wrap i) * sinK (IntKind.i64.wrap k)) (Sm3_prods (IntKind.i64.wrap i) (IntKind.i64.wrap k)).1.1 (Sm3_prods (IntKind.i64.wrap i) (IntKind.i64.wrap k)).1.2) (.cons (Nat.le_refl 10) (.cons (RMul_s (sinK (IntKind.i64.wrap i)) (cosK (IntKind.i64.wrap k)) (Sm3_sin (IntKind.i64.wrap i)) (Sm3_cos (IntKind.i64.wrap k))) (.cons (RMul_s (cosK (IntKind.i64.wrap i)) (sinK (IntKind.i64.wrap k)) (Sm3_cos (IntKind.i64.wrap i)) (Sm3_sin (IntKind.i64.wrap k))) (.cons (RAdd_s (sinK (IntKind.i64.wrap i) * cosK (IntKind.i64.wrap k)) (cosK (IntKind.i64.wrap i) * sinK (IntKind.i64.wrap k)) (Sm3_prods (IntKind.i64.wrap i) (IntKind.i64.wrap k)).2.1 (Sm3_prods (IntKind.i64.wrap i) (IntKind.i64.wrap k)).2.2) (.cons (Nat.le_refl 10) (.cons (ROfN_spec ((1 : Int)) (by decide)) (.cons h1 (.cons (WCos_spec (IntKind.i64.wrap (IntKind.i64.wrap i + IntKind.i64.wrap k))) (.cons h2 (.cons (WSin_spec (IntKind.i64.wrap (IntKind.i64.wrap i + IntKind.i64.wrap k))) (.cons h3 (.cons (WSin_spec (IntKind.i64.wrap i)) (.cons (WCos_spec (IntKind.i64.wrap (IntKind.i64.wrap i - (6 : Int)))) (.cons h4 (.cons (WCos_spec (IntKind.i64.wrap ((0 : Int) - IntKind.i64.wrap i))) (.cons h5 (.cons (WSin_spec (IntKind.i64.wrap ((0 : Int) - IntKind.i64.wrap i))) (.cons (RNegN_s (sinK (IntKind.i64.wrap i)) (Sm3_sin (IntKind.i64.wrap i))) (.cons h6 (.cons (WCos_spec (IntKind.i64.wrap (IntKind.i64.wrap i + (24 : Int)))) .nil))))))))))))))))))))))))))))))))))))
theorem circle_true (i : Int) (hi : (Lit.int .i8 i).wf = true) (k : Int) (hk : (Lit.int .i8 k).wf = true) : PCall P 5 [.lit (.int .i8 i), .lit (.int .i8 k)] (.lit (.bool true)) := by
  simp only [Lit.wf, Bool.and_eq_true, decide_eq_true_eq] at hi hk
  have ei : IntKind.i8.min = -128 ∧ IntKind.i8.max = 127 := by decide
  rw [ei.1, ei.2] at hi hk
  have em : IntKind.i64.wrap i = i := w64 (by omega)
  have en : IntKind.i64.wrap k = k := w64 (by omega)
  refine (circle_run i k i k em.symm en.symm (by omega) (by omega) (numB_eq (cos_sin_one i)) (numB_eq (by rw [w64 (by omega)]; exact cos_add i k)) (numB_eq (by rw [w64 (by omega)]; exact sin_add i k)) (numB_eq (by rw [w64 (by omega)]; exact sin_cos i))
    (numB_eq (by rw [w64 (by omega), Int.zero_sub]; exact cos_neg i)) (numB_eq (by rw [w64 (by omega), Int.zero_sub]; exact sin_neg i))).eqB (numB_eq ?_)
  rw [w64 (by omega)]; exact cosK_cong (by omega)
end Go.Fw
open Go Go.Proofs Go.Proofs.YtcafjpldfnegiaaGreatDoor
namespace Go.Fw
open Go.ChangeShapes Go.WideShapes Go.ChangeAt Go.RowKit
set_option maxRecDepth 100000
theorem lawCall5 {H : Type} {enc : TypeId × Value → H} (W : World) (base : Nat) (args : Array Value) (ds gs : List (DataW H)) (before : List MemPlace)
    (hval : ∀ (j : Nat) t v, Tryz.f5.params[j]? = some t → args[j]? = some v → Value.okWide Tryz.prog W .any base t v)
    (hW : DataW.Whole enc Tryz.prog Tryz.f5.params.toList Rows.wheelCircleSpec.vars false W args.toList ds gs before) :
    Calls Tryz.prog 5 args W fun e W' => e = .returned (.bool true) ∧ Below W.heap.size W W' := by
  obtain ⟨p, q, hA, hV, _, _, _⟩ := hW
  rw [Tryz.params5] at hA hval
  obtain ⟨v0, vs0, d0, ds0, p0, q0, ha0, hd0, _, h0, r0⟩ := trodAll_cons hA
  obtain ⟨v1, vs1, d1, ds1, p1, q1, ha1, hd1, _, h1, r1⟩ := trodAll_cons r0
  obtain ⟨hz, hzd, _⟩ := trodAll_nil r1
  subst hz ha1
  obtain rfl : args = #[v0, v1] := by cases args; simp_all
  obtain ⟨n0, rfl, _, _, hw0⟩ := open_int Tryz.underlying42 (hval 0 42 v0 rfl rfl) h0
  obtain ⟨n1, rfl, _, _, hw1⟩ := open_int Tryz.underlying42 (hval 1 42 v1 rfl rfl) h1
  exact law_call (circle_true n0 hw0 n1 hw1) ⟨_, _, rfl, rfl, ⟨_, _, rfl, rfl, rfl⟩⟩
end Go.Fw
