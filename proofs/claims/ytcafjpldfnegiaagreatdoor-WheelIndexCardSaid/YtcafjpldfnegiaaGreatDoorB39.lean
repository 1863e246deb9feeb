/- A part of the proof that the law returns true for every input: an executor for the model's code, and what functions of the program compute. -/
import Derived.Test.YtcafjpldfnegiaaGreatDoorB09
import Derived.Test.YtcafjpldfnegiaaGreatDoorB14
import Derived.Test.YtcafjpldfnegiaaGreatDoorB28
import Derived.Test.YtcafjpldfnegiaaGreatDoorB29
import Derived.Test.YtcafjpldfnegiaaGreatDoorB31
import Derived.Test.YtcafjpldfnegiaaGreatDoorB32
import Derived.Test.YtcafjpldfnegiaaGreatDoorB33
import Derived.Test.YtcafjpldfnegiaaGreatDoorB35
import Derived.Test.YtcafjpldfnegiaaGreatDoorB38
import Derived.KernelRfl
open Go
namespace Go.Fw
set_option maxRecDepth 100000
theorem n5_of (a b c d e g : Int) (h : g = K.den a b c d e) (he : e ≠ 0) : n5C (a / g) (b / g) (c / g) (d / g) (e / g) = numC (K.of a b c d e) := by
  subst h
  have key : ∀ x : K, x = K.of a b c d e → n5C (a / K.den a b c d e) (b / K.den a b c d e) (c / K.den a b c d e) (d / K.den a b c d e) (e / K.den a b c d e) = numC x := by
    intro x hx
    unfold K.of at hx
    rw [dif_neg he] at hx
    subst hx
    rfl
  exact key _ rfl
theorem RRed_spec (a b c d e : Int) (he : e ≠ 0) (g1 : GcdC e a) (g2 : GcdC ((Nat.gcd e.natAbs a.natAbs : Nat) : Int) b) (g3 : GcdC ((Nat.gcd (Nat.gcd e.natAbs a.natAbs) b.natAbs : Nat) : Int) c)
    (g4 : GcdC ((Nat.gcd (Nat.gcd (Nat.gcd e.natAbs a.natAbs) b.natAbs) c.natAbs : Nat) : Int) d)
    (oa : OverC a (K.den a b c d e)) (ob : OverC b (K.den a b c d e)) (oc : OverC c (K.den a b c d e)) (od : OverC d (K.den a b c d e)) (oe : OverC e (K.den a b c d e)) :
    PCall P 129 [c4C a b c d, intC e] (numC (K.of a b c d e)) := by
  have hden : K.den a b c d e = if e < 0 then -((Nat.gcd (Nat.gcd (Nat.gcd (Nat.gcd e.natAbs a.natAbs) b.natAbs) c.natAbs) d.natAbs : Nat) : Int) else ((Nat.gcd (Nat.gcd (Nat.gcd (Nat.gcd e.natAbs a.natAbs) b.natAbs) c.natAbs) d.natAbs : Nat) : Int) := rfl
  have hg0 : 0 < Nat.gcd (Nat.gcd (Nat.gcd (Nat.gcd e.natAbs a.natAbs) b.natAbs) c.natAbs) d.natAbs := gcd5_pos he
  by_cases hs : e < 0
  · have hsg : decide (e.sign < 0) = true := decide_eq_true (Int.sign_neg_iff.2 hs)
    rw [if_pos hs] at hden
    rw [hden] at oa ob oc od oe
    have := Rdc_p1 a b c d e hsg
    simp only [Int.natAbs_natCast] at this
    refine (this ?_ g1 g2 g3 g4 (by decide) oa ob oc od oe).eq (n5_of a b c d e _ hden.symm he)
    rw [decide_eq_true (by omega)]; rfl
  · have hsg : decide (e.sign < 0) = false := decide_eq_false (by rw [Int.sign_neg_iff]; exact hs)
    rw [if_neg hs] at hden
    rw [hden] at oa ob oc od oe
    by_cases h1 : Nat.gcd (Nat.gcd (Nat.gcd (Nat.gcd e.natAbs a.natAbs) b.natAbs) c.natAbs) d.natAbs = 1
    · have := Rdc_p4 a b c d e hsg
      simp only [Int.natAbs_natCast] at this
      refine (this ?_ g1 g2 g3 g4 (by decide)).eq ?_
      · rw [decide_eq_false (by omega), bytes_beq, decide_eq_true h1]; rfl
      · have := n5_of a b c d e _ hden.symm he
        rw [h1] at this
        simp only [Int.natCast_one, Int.ediv_one] at this
        exact this
    · have := Rdc_p3 a b c d e hsg
      simp only [Int.natAbs_natCast] at this
      refine (this ?_ g1 g2 g3 g4 (by decide) oa ob oc od oe).eq (n5_of a b c d e _ hden.symm he)
      rw [bytes_beq, decide_eq_false h1]; simp
/-- Small integers. -/
theorem RRed_s (a b c d e : Int) (he : e ≠ 0) (ha : a.natAbs < 256 ^ 7) (hb : b.natAbs < 256 ^ 7) (hc : c.natAbs < 256 ^ 7) (hd : d.natAbs < 256 ^ 7) (hl : e.natAbs < 256 ^ 7) : PCall P 129 [c4C a b c d, intC e] (numC (K.of a b c d e)) := by
  have gl : ∀ x y : Nat, x ≠ 0 → x < 256 ^ 7 → Nat.gcd x y ≠ 0 ∧ Nat.gcd x y < 256 ^ 7 := fun x y h0 h => ⟨by have := Nat.gcd_pos_of_pos_left y (Nat.pos_of_ne_zero h0); omega, Nat.lt_of_le_of_lt (Nat.gcd_le_left _ (Nat.pos_of_ne_zero h0)) h⟩
  obtain ⟨n1, l1⟩ := gl e.natAbs a.natAbs (by omega) hl
  obtain ⟨n2, l2⟩ := gl _ b.natAbs n1 l1
  obtain ⟨n3, l3⟩ := gl _ c.natAbs n2 l2
  obtain ⟨n4, l4⟩ := gl _ d.natAbs n3 l3
  obtain ⟨v0, v1, v2, v3, v4⟩ := K.den_dvd a b c d e
  have hne := K.den_ne (c0 := a) (c1 := b) (c2 := c) (c3 := d) he
  have hdl : (K.den a b c d e).natAbs < 256 ^ 7 := by rw [K.den_natAbs]; exact l4
  exact RRed_spec a b c d e he (RGcd_s _ _ hl ha) (RGcd_s _ _ (by rwa [Int.natAbs_natCast]) hb) (RGcd_s _ _ (by rwa [Int.natAbs_natCast]) hc) (RGcd_s _ _ (by rwa [Int.natAbs_natCast]) hd)
    (ROver_s _ _ ha hdl hne v0) (ROver_s _ _ hb hdl hne v1) (ROver_s _ _ hc hdl hne v2) (ROver_s _ _ hd hdl hne v3) (ROver_s _ _ hl hdl hne v4)
end Go.Fw
open Go
namespace Go.Fw
set_option maxRecDepth 100000

theorem Mks_p1 (a : Int) (b : Int) (c : Int) (d : Int) (e : Int) (h1 : (e.sign == (0 : Int)) = false) (s73_0 : e ≠ (0 : Int)) (s73_1 : a.natAbs < 256 ^ 7) (s73_2 : b.natAbs < 256 ^ 7) (s73_3 : c.natAbs < 256 ^ 7) (s73_4 : d.natAbs < 256 ^ 7) (s73_5 : e.natAbs < 256 ^ 7) : PCall P (191 : FuncId) [c4C a b c d, intC e] (CV.tup [numC (K.of a b c d e), CV.lit (Value.int IntKind.i64 (0 : Int))]) :=
  pcallR (ors := [(12, Or.r (CV.lit (Value.bool true))), (25, Or.r (CV.lit (Value.bool true))), (38, Or.r (CV.lit (Value.bool true))), (51, Or.r (CV.lit (Value.bool true))), (62, Or.r (CV.lit (Value.bool true))), (67, Or.r (CV.lit (Value.int IntKind.i64 e.sign))), (70, Or.b false), (73, Or.r (numC (K.of a b c d e)))]) (by kernel_rfl) (.cons (show (0 : Int) ≤ (0 : Int) ∧ (0 : Int) < (4 : Int) from (by decide)) (.cons (Go.Fw.rValid_int (a)) (.cons (show (0 : Int) ≤ (1 : Int) ∧ (1 : Int) < (4 : Int) from (by decide)) (.cons (Go.Fw.rValid_int (b)) (.cons (show (0 : Int) ≤ (2 : Int) ∧ (2 : Int) < (4 : Int) from (by decide)) (.cons (Go.Fw.rValid_int (c)) (.cons (show (0 : Int) ≤ (3 : Int) ∧ (3 : Int) < (4 : Int) from (by decide)) (.cons (Go.Fw.rValid_int (d)) (.cons (Go.Fw.rValid_int (e)) (.cons (Go.Fw.RSign_spec (e)) (.cons h1 (.cons (Go.Fw.RRed_s (a) (b) (c) (d) (e) s73_0 s73_1 s73_2 s73_3 s73_4 s73_5) (.cons (show 10 ≤ 10 from (by decide)) .nil)))))))))))))
end Go.Fw
open Go
namespace Go.Fw
set_option maxRecDepth 100000
theorem RMake_s (a b c d e : Int) (he : e ≠ 0) (ha : a.natAbs < 256 ^ 7) (hb : b.natAbs < 256 ^ 7) (hc : c.natAbs < 256 ^ 7) (hd : d.natAbs < 256 ^ 7) (hl : e.natAbs < 256 ^ 7) :
    PCall P 191 [c4C a b c d, intC e] (.tup [numC (K.of a b c d e), ci64 0]) := Mks_p1 a b c d e (by simpa using he) he ha hb hc hd hl
theorem RMake4 (a b c d : Int) (ha : a.natAbs < 256 ^ 7) (hb : b.natAbs < 256 ^ 7) (hc : c.natAbs < 256 ^ 7) (hd : d.natAbs < 256 ^ 7) :
    PCall P 191 [c4C a b c d, .agg [.lit (.bool false), cstr (bytesOf 4)]] (.tup [numC (K.of a b c d 4), ci64 0]) := RMake_s a b c d 4 (by decide) ha hb hc hd (by decide)
end Go.Fw
open Go
namespace Go.Fw
set_option maxRecDepth 100000

theorem RQt_p1 (a : Int) (b : Int) (c : Int) (d : Int) (s2_0 : (-9223372036854775808 : Int) ≤ a ∧ a ≤ (9223372036854775807 : Int)) (s4_0 : (-9223372036854775808 : Int) ≤ b ∧ b ≤ (9223372036854775807 : Int)) (s6_0 : (-9223372036854775808 : Int) ≤ c ∧ c ≤ (9223372036854775807 : Int)) (s8_0 : (-9223372036854775808 : Int) ≤ d ∧ d ≤ (9223372036854775807 : Int)) (s10_0 : (-9223372036854775808 : Int) ≤ (4 : Int) ∧ (4 : Int) ≤ (9223372036854775807 : Int)) (s11_0 : a.natAbs < 256 ^ 7) (s11_1 : b.natAbs < 256 ^ 7) (s11_2 : c.natAbs < 256 ^ 7) (s11_3 : d.natAbs < 256 ^ 7) : PCall P (123 : FuncId) [ci64 a, ci64 b, ci64 c, ci64 d] (numC (K.of a b c d (4 : Int))) :=
  pcallR (ors := [(2, Or.r (CV.agg [CV.lit (Value.bool (decide (a < (0 : Int)))), CV.lit (Value.string (bytesOf a.natAbs))])), (4, Or.r (CV.agg [CV.lit (Value.bool (decide (b < (0 : Int)))), CV.lit (Value.string (bytesOf b.natAbs))])), (6, Or.r (CV.agg [CV.lit (Value.bool (decide (c < (0 : Int)))), CV.lit (Value.string (bytesOf c.natAbs))])), (8, Or.r (CV.agg [CV.lit (Value.bool (decide (d < (0 : Int)))), CV.lit (Value.string (bytesOf d.natAbs))])), (10, Or.r (CV.agg [CV.lit (Value.bool false), CV.lit (Value.string (bytesOf 4))])), (11, Or.r (CV.tup [numC (K.of a b c d (4 : Int)), CV.lit (Value.int IntKind.i64 (0 : Int))]))]) (by kernel_rfl) (.cons (Go.Fw.ROf_spec (a) s2_0) (.cons (Go.Fw.ROf_spec (b) s4_0) (.cons (Go.Fw.ROf_spec (c) s6_0) (.cons (Go.Fw.ROf_spec (d) s8_0) (.cons (Go.Fw.ROf_spec ((4 : Int)) s10_0) (.cons (Go.Fw.RMake4 (a) (b) (c) (d) s11_0 s11_1 s11_2 s11_3) (.cons (show 10 ≤ 10 from (by decide)) (.cons (show 10 ≤ 10 from (by decide)) .nil))))))))
end Go.Fw
open Go
namespace Go.Fw
set_option maxRecDepth 100000
theorem RQt (a b c d : Int) (x : K) (ha : a.natAbs < 256) (hb : b.natAbs < 256) (hc : c.natAbs < 256) (hd : d.natAbs < 256) (h : K.of a b c d 4 = x) : PCall P 123 [ci64 a, ci64 b, ci64 c, ci64 d] (numC x) := by
  have k : (256 : Nat) ≤ 256 ^ 7 := by decide
  exact h ▸ RQt_p1 a b c d (by omega) (by omega) (by omega) (by omega) (by decide) (Nat.lt_of_lt_of_le ha k) (Nat.lt_of_lt_of_le hb k) (Nat.lt_of_lt_of_le hc k) (Nat.lt_of_lt_of_le hd k)
theorem RQ0 : PCall P 123 [ci64 (4), ci64 (0), ci64 (0), ci64 (0)] (numC (cos6 0)) := RQt _ _ _ _ _ (by decide) (by decide) (by decide) (by decide) (by decide)
theorem RQ1 : PCall P 123 [ci64 (0), ci64 (1), ci64 (0), ci64 (1)] (numC (cos6 1)) := RQt _ _ _ _ _ (by decide) (by decide) (by decide) (by decide) (by decide)
theorem RQ2 : PCall P 123 [ci64 (0), ci64 (0), ci64 (2), ci64 (0)] (numC (cos6 2)) := RQt _ _ _ _ _ (by decide) (by decide) (by decide) (by decide) (by decide)
theorem RQ3 : PCall P 123 [ci64 (0), ci64 (2), ci64 (0), ci64 (0)] (numC (cos6 3)) := RQt _ _ _ _ _ (by decide) (by decide) (by decide) (by decide) (by decide)
theorem RQ4 : PCall P 123 [ci64 (2), ci64 (0), ci64 (0), ci64 (0)] (numC (cos6 4)) := RQt _ _ _ _ _ (by decide) (by decide) (by decide) (by decide) (by decide)
theorem RQ5 : PCall P 123 [ci64 (0), ci64 (-1), ci64 (0), ci64 (1)] (numC (cos6 5)) := RQt _ _ _ _ _ (by decide) (by decide) (by decide) (by decide) (by decide)
theorem RQ6 : PCall P 123 [ci64 (0), ci64 (0), ci64 (0), ci64 (0)] (numC (cos6 6)) := RQt _ _ _ _ _ (by decide) (by decide) (by decide) (by decide) (by decide)
end Go.Fw
open Go
namespace Go.Fw
set_option maxRecDepth 100000

theorem RCo0_p1 : PCall P (34 : FuncId) [ci64 (0 : Int)] (CV.agg [CV.lit (Value.bool false), CV.lit (Value.string (bytesOf 1)), CV.lit (Value.bool false), CV.lit (Value.string (bytesOf 0)), CV.lit (Value.bool false), CV.lit (Value.string (bytesOf 0)), CV.lit (Value.bool false), CV.lit (Value.string (bytesOf 0)), CV.lit (Value.bool false), CV.lit (Value.string (bytesOf 1))]) :=
  pcallR (ors := [(2, Or.r (CV.lit (Value.int IntKind.i64 (0 : Int)))), (11, Or.r (CV.agg [CV.lit (Value.bool false), CV.lit (Value.string (bytesOf 1)), CV.lit (Value.bool false), CV.lit (Value.string (bytesOf 0)), CV.lit (Value.bool false), CV.lit (Value.string (bytesOf 0)), CV.lit (Value.bool false), CV.lit (Value.string (bytesOf 0)), CV.lit (Value.bool false), CV.lit (Value.string (bytesOf 1))]))]) (by kernel_rfl) (.cons (Go.Fw.RMod_spec ((0 : Int))) (.cons (Go.Fw.RQ0) (.cons (show 10 ≤ 10 from (by decide)) .nil)))
theorem RCo1_p1 : PCall P (34 : FuncId) [ci64 (1 : Int)] (CV.agg [CV.lit (Value.bool false), CV.lit (Value.string (bytesOf 0)), CV.lit (Value.bool false), CV.lit (Value.string (bytesOf 1)), CV.lit (Value.bool false), CV.lit (Value.string (bytesOf 0)), CV.lit (Value.bool false), CV.lit (Value.string (bytesOf 1)), CV.lit (Value.bool false), CV.lit (Value.string (bytesOf 4))]) :=
  pcallR (ors := [(2, Or.r (CV.lit (Value.int IntKind.i64 (1 : Int)))), (14, Or.r (CV.agg [CV.lit (Value.bool false), CV.lit (Value.string (bytesOf 0)), CV.lit (Value.bool false), CV.lit (Value.string (bytesOf 1)), CV.lit (Value.bool false), CV.lit (Value.string (bytesOf 0)), CV.lit (Value.bool false), CV.lit (Value.string (bytesOf 1)), CV.lit (Value.bool false), CV.lit (Value.string (bytesOf 4))]))]) (by kernel_rfl) (.cons (Go.Fw.RMod_spec ((1 : Int))) (.cons (Go.Fw.RQ1) (.cons (show 10 ≤ 10 from (by decide)) .nil)))
theorem RCo2_p1 : PCall P (34 : FuncId) [ci64 (2 : Int)] (CV.agg [CV.lit (Value.bool false), CV.lit (Value.string (bytesOf 0)), CV.lit (Value.bool false), CV.lit (Value.string (bytesOf 0)), CV.lit (Value.bool false), CV.lit (Value.string (bytesOf 1)), CV.lit (Value.bool false), CV.lit (Value.string (bytesOf 0)), CV.lit (Value.bool false), CV.lit (Value.string (bytesOf 2))]) :=
  pcallR (ors := [(2, Or.r (CV.lit (Value.int IntKind.i64 (2 : Int)))), (17, Or.r (CV.agg [CV.lit (Value.bool false), CV.lit (Value.string (bytesOf 0)), CV.lit (Value.bool false), CV.lit (Value.string (bytesOf 0)), CV.lit (Value.bool false), CV.lit (Value.string (bytesOf 1)), CV.lit (Value.bool false), CV.lit (Value.string (bytesOf 0)), CV.lit (Value.bool false), CV.lit (Value.string (bytesOf 2))]))]) (by kernel_rfl) (.cons (Go.Fw.RMod_spec ((2 : Int))) (.cons (Go.Fw.RQ2) (.cons (show 10 ≤ 10 from (by decide)) .nil)))
theorem RCo3_p1 : PCall P (34 : FuncId) [ci64 (3 : Int)] (CV.agg [CV.lit (Value.bool false), CV.lit (Value.string (bytesOf 0)), CV.lit (Value.bool false), CV.lit (Value.string (bytesOf 1)), CV.lit (Value.bool false), CV.lit (Value.string (bytesOf 0)), CV.lit (Value.bool false), CV.lit (Value.string (bytesOf 0)), CV.lit (Value.bool false), CV.lit (Value.string (bytesOf 2))]) :=
  pcallR (ors := [(2, Or.r (CV.lit (Value.int IntKind.i64 (3 : Int)))), (20, Or.r (CV.agg [CV.lit (Value.bool false), CV.lit (Value.string (bytesOf 0)), CV.lit (Value.bool false), CV.lit (Value.string (bytesOf 1)), CV.lit (Value.bool false), CV.lit (Value.string (bytesOf 0)), CV.lit (Value.bool false), CV.lit (Value.string (bytesOf 0)), CV.lit (Value.bool false), CV.lit (Value.string (bytesOf 2))]))]) (by kernel_rfl) (.cons (Go.Fw.RMod_spec ((3 : Int))) (.cons (Go.Fw.RQ3) (.cons (show 10 ≤ 10 from (by decide)) .nil)))
theorem RCo4_p1 : PCall P (34 : FuncId) [ci64 (4 : Int)] (CV.agg [CV.lit (Value.bool false), CV.lit (Value.string (bytesOf 1)), CV.lit (Value.bool false), CV.lit (Value.string (bytesOf 0)), CV.lit (Value.bool false), CV.lit (Value.string (bytesOf 0)), CV.lit (Value.bool false), CV.lit (Value.string (bytesOf 0)), CV.lit (Value.bool false), CV.lit (Value.string (bytesOf 2))]) :=
  pcallR (ors := [(2, Or.r (CV.lit (Value.int IntKind.i64 (4 : Int)))), (23, Or.r (CV.agg [CV.lit (Value.bool false), CV.lit (Value.string (bytesOf 1)), CV.lit (Value.bool false), CV.lit (Value.string (bytesOf 0)), CV.lit (Value.bool false), CV.lit (Value.string (bytesOf 0)), CV.lit (Value.bool false), CV.lit (Value.string (bytesOf 0)), CV.lit (Value.bool false), CV.lit (Value.string (bytesOf 2))]))]) (by kernel_rfl) (.cons (Go.Fw.RMod_spec ((4 : Int))) (.cons (Go.Fw.RQ4) (.cons (show 10 ≤ 10 from (by decide)) .nil)))
theorem RCo5_p1 : PCall P (34 : FuncId) [ci64 (5 : Int)] (CV.agg [CV.lit (Value.bool false), CV.lit (Value.string (bytesOf 0)), CV.lit (Value.bool true), CV.lit (Value.string (bytesOf 1)), CV.lit (Value.bool false), CV.lit (Value.string (bytesOf 0)), CV.lit (Value.bool false), CV.lit (Value.string (bytesOf 1)), CV.lit (Value.bool false), CV.lit (Value.string (bytesOf 4))]) :=
  pcallR (ors := [(2, Or.r (CV.lit (Value.int IntKind.i64 (5 : Int)))), (26, Or.r (CV.agg [CV.lit (Value.bool false), CV.lit (Value.string (bytesOf 0)), CV.lit (Value.bool true), CV.lit (Value.string (bytesOf 1)), CV.lit (Value.bool false), CV.lit (Value.string (bytesOf 0)), CV.lit (Value.bool false), CV.lit (Value.string (bytesOf 1)), CV.lit (Value.bool false), CV.lit (Value.string (bytesOf 4))]))]) (by kernel_rfl) (.cons (Go.Fw.RMod_spec ((5 : Int))) (.cons (Go.Fw.RQ5) (.cons (show 10 ≤ 10 from (by decide)) .nil)))
theorem RCo6_p1 : PCall P (34 : FuncId) [ci64 (6 : Int)] (CV.agg [CV.lit (Value.bool false), CV.lit (Value.string (bytesOf 0)), CV.lit (Value.bool false), CV.lit (Value.string (bytesOf 0)), CV.lit (Value.bool false), CV.lit (Value.string (bytesOf 0)), CV.lit (Value.bool false), CV.lit (Value.string (bytesOf 0)), CV.lit (Value.bool false), CV.lit (Value.string (bytesOf 1))]) :=
  pcallR (ors := [(2, Or.r (CV.lit (Value.int IntKind.i64 (6 : Int)))), (29, Or.r (CV.agg [CV.lit (Value.bool false), CV.lit (Value.string (bytesOf 0)), CV.lit (Value.bool false), CV.lit (Value.string (bytesOf 0)), CV.lit (Value.bool false), CV.lit (Value.string (bytesOf 0)), CV.lit (Value.bool false), CV.lit (Value.string (bytesOf 0)), CV.lit (Value.bool false), CV.lit (Value.string (bytesOf 1))]))]) (by kernel_rfl) (.cons (Go.Fw.RMod_spec ((6 : Int))) (.cons (Go.Fw.RQ6) (.cons (show 10 ≤ 10 from (by decide)) .nil)))
end Go.Fw
open Go
namespace Go.Fw
set_option maxRecDepth 100000
theorem RCo_lo (j : Int) (h : 0 ≤ j ∧ j < 6) : PCall P 34 [ci64 j] (numC (cos6 j.toNat)) := by
  have : j = 0 ∨ j = 1 ∨ j = 2 ∨ j = 3 ∨ j = 4 ∨ j = 5 := by omega
  rcases this with rfl | rfl | rfl | rfl | rfl | rfl
  · exact RCo0_p1
  · exact RCo1_p1
  · exact RCo2_p1
  · exact RCo3_p1
  · exact RCo4_p1
  · exact RCo5_p1
theorem Sm3.of {x : K} (h : x.c0.natAbs < 256 ∧ x.c1.natAbs < 256 ∧ x.c2.natAbs < 256 ∧ x.c3.natAbs < 256 ∧ x.d.natAbs < 256) : Sm3 x := by
  intro i hi
  have k : (256 : Nat) ≤ 256 ^ 3 := by decide
  have : i = 0 ∨ i = 1 ∨ i = 2 ∨ i = 3 ∨ i = 4 := by omega
  rcases this with rfl | rfl | rfl | rfl | rfl
  · exact Nat.lt_of_lt_of_le h.1 k
  · exact Nat.lt_of_lt_of_le h.2.1 k
  · exact Nat.lt_of_lt_of_le h.2.2.1 k
  · exact Nat.lt_of_lt_of_le h.2.2.2.1 k
  · exact Nat.lt_of_lt_of_le h.2.2.2.2 k
theorem Sm3_cos6 (n : Nat) : Sm3 (cos6 n) := by
  match n with
  | 0 | 1 | 2 | 3 | 4 | 5 => exact Sm3.of (by decide)
  | _ + 6 => exact Sm3.of (by decide : (cos6 6).c0.natAbs < 256 ∧ (cos6 6).c1.natAbs < 256 ∧ (cos6 6).c2.natAbs < 256 ∧ (cos6 6).c3.natAbs < 256 ∧ (cos6 6).d.natAbs < 256)
end Go.Fw
open Go
namespace Go.Fw
set_option maxRecDepth 100000

theorem RCo_p1 (i : Int) (h1 : (decide (i % (24 : Int) > (12 : Int))) = true) (h2 : (IntKind.i64.wrap ((24 : Int) - i % (24 : Int)) == (0 : Int)) = true) : PCall P (34 : FuncId) [ci64 i] (CV.agg [CV.lit (Value.bool false), CV.lit (Value.string (bytesOf 1)), CV.lit (Value.bool false), CV.lit (Value.string (bytesOf 0)), CV.lit (Value.bool false), CV.lit (Value.string (bytesOf 0)), CV.lit (Value.bool false), CV.lit (Value.string (bytesOf 0)), CV.lit (Value.bool false), CV.lit (Value.string (bytesOf 1))]) :=
  pcallR (ors := [(2, Or.r (CV.lit (Value.int IntKind.i64 (i % (24 : Int))))), (6, Or.b true), (13, Or.b true), (14, Or.r (CV.agg [CV.lit (Value.bool false), CV.lit (Value.string (bytesOf 1)), CV.lit (Value.bool false), CV.lit (Value.string (bytesOf 0)), CV.lit (Value.bool false), CV.lit (Value.string (bytesOf 0)), CV.lit (Value.bool false), CV.lit (Value.string (bytesOf 0)), CV.lit (Value.bool false), CV.lit (Value.string (bytesOf 1))]))]) (by kernel_rfl) (.cons (Go.Fw.RMod_spec (i)) (.cons h1 (.cons h2 (.cons (Go.Fw.RQ0) (.cons (show 10 ≤ 10 from (by decide)) .nil)))))
theorem RCo_p2 (i : Int) (h1 : (decide (i % (24 : Int) > (12 : Int))) = true) (h2 : (IntKind.i64.wrap ((24 : Int) - i % (24 : Int)) == (0 : Int)) = false) (h3 : (IntKind.i64.wrap ((24 : Int) - i % (24 : Int)) == (1 : Int)) = true) : PCall P (34 : FuncId) [ci64 i] (CV.agg [CV.lit (Value.bool false), CV.lit (Value.string (bytesOf 0)), CV.lit (Value.bool false), CV.lit (Value.string (bytesOf 1)), CV.lit (Value.bool false), CV.lit (Value.string (bytesOf 0)), CV.lit (Value.bool false), CV.lit (Value.string (bytesOf 1)), CV.lit (Value.bool false), CV.lit (Value.string (bytesOf 4))]) :=
  pcallR (ors := [(2, Or.r (CV.lit (Value.int IntKind.i64 (i % (24 : Int))))), (6, Or.b true), (13, Or.b false), (16, Or.b true), (17, Or.r (CV.agg [CV.lit (Value.bool false), CV.lit (Value.string (bytesOf 0)), CV.lit (Value.bool false), CV.lit (Value.string (bytesOf 1)), CV.lit (Value.bool false), CV.lit (Value.string (bytesOf 0)), CV.lit (Value.bool false), CV.lit (Value.string (bytesOf 1)), CV.lit (Value.bool false), CV.lit (Value.string (bytesOf 4))]))]) (by kernel_rfl) (.cons (Go.Fw.RMod_spec (i)) (.cons h1 (.cons h2 (.cons h3 (.cons (Go.Fw.RQ1) (.cons (show 10 ≤ 10 from (by decide)) .nil))))))
theorem RCo_p3 (i : Int) (h1 : (decide (i % (24 : Int) > (12 : Int))) = true) (h2 : (IntKind.i64.wrap ((24 : Int) - i % (24 : Int)) == (0 : Int)) = false) (h3 : (IntKind.i64.wrap ((24 : Int) - i % (24 : Int)) == (1 : Int)) = false) (h4 : (IntKind.i64.wrap ((24 : Int) - i % (24 : Int)) == (2 : Int)) = true) : PCall P (34 : FuncId) [ci64 i] (CV.agg [CV.lit (Value.bool false), CV.lit (Value.string (bytesOf 0)), CV.lit (Value.bool false), CV.lit (Value.string (bytesOf 0)), CV.lit (Value.bool false), CV.lit (Value.string (bytesOf 1)), CV.lit (Value.bool false), CV.lit (Value.string (bytesOf 0)), CV.lit (Value.bool false), CV.lit (Value.string (bytesOf 2))]) :=
  pcallR (ors := [(2, Or.r (CV.lit (Value.int IntKind.i64 (i % (24 : Int))))), (6, Or.b true), (13, Or.b false), (16, Or.b false), (19, Or.b true), (20, Or.r (CV.agg [CV.lit (Value.bool false), CV.lit (Value.string (bytesOf 0)), CV.lit (Value.bool false), CV.lit (Value.string (bytesOf 0)), CV.lit (Value.bool false), CV.lit (Value.string (bytesOf 1)), CV.lit (Value.bool false), CV.lit (Value.string (bytesOf 0)), CV.lit (Value.bool false), CV.lit (Value.string (bytesOf 2))]))]) (by kernel_rfl) (.cons (Go.Fw.RMod_spec (i)) (.cons h1 (.cons h2 (.cons h3 (.cons h4 (.cons (Go.Fw.RQ2) (.cons (show 10 ≤ 10 from (by decide)) .nil)))))))
theorem RCo_p4 (i : Int) (h1 : (decide (i % (24 : Int) > (12 : Int))) = true) (h2 : (IntKind.i64.wrap ((24 : Int) - i % (24 : Int)) == (0 : Int)) = false) (h3 : (IntKind.i64.wrap ((24 : Int) - i % (24 : Int)) == (1 : Int)) = false) (h4 : (IntKind.i64.wrap ((24 : Int) - i % (24 : Int)) == (2 : Int)) = false) (h5 : (IntKind.i64.wrap ((24 : Int) - i % (24 : Int)) == (3 : Int)) = true) : PCall P (34 : FuncId) [ci64 i] (CV.agg [CV.lit (Value.bool false), CV.lit (Value.string (bytesOf 0)), CV.lit (Value.bool false), CV.lit (Value.string (bytesOf 1)), CV.lit (Value.bool false), CV.lit (Value.string (bytesOf 0)), CV.lit (Value.bool false), CV.lit (Value.string (bytesOf 0)), CV.lit (Value.bool false), CV.lit (Value.string (bytesOf 2))]) :=
  pcallR (ors := [(2, Or.r (CV.lit (Value.int IntKind.i64 (i % (24 : Int))))), (6, Or.b true), (13, Or.b false), (16, Or.b false), (19, Or.b false), (22, Or.b true), (23, Or.r (CV.agg [CV.lit (Value.bool false), CV.lit (Value.string (bytesOf 0)), CV.lit (Value.bool false), CV.lit (Value.string (bytesOf 1)), CV.lit (Value.bool false), CV.lit (Value.string (bytesOf 0)), CV.lit (Value.bool false), CV.lit (Value.string (bytesOf 0)), CV.lit (Value.bool false), CV.lit (Value.string (bytesOf 2))]))]) (by kernel_rfl) (.cons (Go.Fw.RMod_spec (i)) (.cons h1 (.cons h2 (.cons h3 (.cons h4 (.cons h5 (.cons (Go.Fw.RQ3) (.cons (show 10 ≤ 10 from (by decide)) .nil))))))))
theorem RCo_p5 (i : Int) (h1 : (decide (i % (24 : Int) > (12 : Int))) = true) (h2 : (IntKind.i64.wrap ((24 : Int) - i % (24 : Int)) == (0 : Int)) = false) (h3 : (IntKind.i64.wrap ((24 : Int) - i % (24 : Int)) == (1 : Int)) = false) (h4 : (IntKind.i64.wrap ((24 : Int) - i % (24 : Int)) == (2 : Int)) = false) (h5 : (IntKind.i64.wrap ((24 : Int) - i % (24 : Int)) == (3 : Int)) = false) (h6 : (IntKind.i64.wrap ((24 : Int) - i % (24 : Int)) == (4 : Int)) = true) : PCall P (34 : FuncId) [ci64 i] (CV.agg [CV.lit (Value.bool false), CV.lit (Value.string (bytesOf 1)), CV.lit (Value.bool false), CV.lit (Value.string (bytesOf 0)), CV.lit (Value.bool false), CV.lit (Value.string (bytesOf 0)), CV.lit (Value.bool false), CV.lit (Value.string (bytesOf 0)), CV.lit (Value.bool false), CV.lit (Value.string (bytesOf 2))]) :=
  pcallR (ors := [(2, Or.r (CV.lit (Value.int IntKind.i64 (i % (24 : Int))))), (6, Or.b true), (13, Or.b false), (16, Or.b false), (19, Or.b false), (22, Or.b false), (25, Or.b true), (26, Or.r (CV.agg [CV.lit (Value.bool false), CV.lit (Value.string (bytesOf 1)), CV.lit (Value.bool false), CV.lit (Value.string (bytesOf 0)), CV.lit (Value.bool false), CV.lit (Value.string (bytesOf 0)), CV.lit (Value.bool false), CV.lit (Value.string (bytesOf 0)), CV.lit (Value.bool false), CV.lit (Value.string (bytesOf 2))]))]) (by kernel_rfl) (.cons (Go.Fw.RMod_spec (i)) (.cons h1 (.cons h2 (.cons h3 (.cons h4 (.cons h5 (.cons h6 (.cons (Go.Fw.RQ4) (.cons (show 10 ≤ 10 from (by decide)) .nil)))))))))
theorem RCo_p6 (i : Int) (h1 : (decide (i % (24 : Int) > (12 : Int))) = true) (h2 : (IntKind.i64.wrap ((24 : Int) - i % (24 : Int)) == (0 : Int)) = false) (h3 : (IntKind.i64.wrap ((24 : Int) - i % (24 : Int)) == (1 : Int)) = false) (h4 : (IntKind.i64.wrap ((24 : Int) - i % (24 : Int)) == (2 : Int)) = false) (h5 : (IntKind.i64.wrap ((24 : Int) - i % (24 : Int)) == (3 : Int)) = false) (h6 : (IntKind.i64.wrap ((24 : Int) - i % (24 : Int)) == (4 : Int)) = false) (h7 : (IntKind.i64.wrap ((24 : Int) - i % (24 : Int)) == (5 : Int)) = true) : PCall P (34 : FuncId) [ci64 i] (CV.agg [CV.lit (Value.bool false), CV.lit (Value.string (bytesOf 0)), CV.lit (Value.bool true), CV.lit (Value.string (bytesOf 1)), CV.lit (Value.bool false), CV.lit (Value.string (bytesOf 0)), CV.lit (Value.bool false), CV.lit (Value.string (bytesOf 1)), CV.lit (Value.bool false), CV.lit (Value.string (bytesOf 4))]) :=
  pcallR (ors := [(2, Or.r (CV.lit (Value.int IntKind.i64 (i % (24 : Int))))), (6, Or.b true), (13, Or.b false), (16, Or.b false), (19, Or.b false), (22, Or.b false), (25, Or.b false), (28, Or.b true), (29, Or.r (CV.agg [CV.lit (Value.bool false), CV.lit (Value.string (bytesOf 0)), CV.lit (Value.bool true), CV.lit (Value.string (bytesOf 1)), CV.lit (Value.bool false), CV.lit (Value.string (bytesOf 0)), CV.lit (Value.bool false), CV.lit (Value.string (bytesOf 1)), CV.lit (Value.bool false), CV.lit (Value.string (bytesOf 4))]))]) (by kernel_rfl) (.cons (Go.Fw.RMod_spec (i)) (.cons h1 (.cons h2 (.cons h3 (.cons h4 (.cons h5 (.cons h6 (.cons h7 (.cons (Go.Fw.RQ5) (.cons (show 10 ≤ 10 from (by decide)) .nil))))))))))
theorem RCo_p7 (i : Int) (h1 : (decide (i % (24 : Int) > (12 : Int))) = true) (h2 : (IntKind.i64.wrap ((24 : Int) - i % (24 : Int)) == (0 : Int)) = false) (h3 : (IntKind.i64.wrap ((24 : Int) - i % (24 : Int)) == (1 : Int)) = false) (h4 : (IntKind.i64.wrap ((24 : Int) - i % (24 : Int)) == (2 : Int)) = false) (h5 : (IntKind.i64.wrap ((24 : Int) - i % (24 : Int)) == (3 : Int)) = false) (h6 : (IntKind.i64.wrap ((24 : Int) - i % (24 : Int)) == (4 : Int)) = false) (h7 : (IntKind.i64.wrap ((24 : Int) - i % (24 : Int)) == (5 : Int)) = false) (h8 : (IntKind.i64.wrap ((24 : Int) - i % (24 : Int)) == (6 : Int)) = true) : PCall P (34 : FuncId) [ci64 i] (CV.agg [CV.lit (Value.bool false), CV.lit (Value.string (bytesOf 0)), CV.lit (Value.bool false), CV.lit (Value.string (bytesOf 0)), CV.lit (Value.bool false), CV.lit (Value.string (bytesOf 0)), CV.lit (Value.bool false), CV.lit (Value.string (bytesOf 0)), CV.lit (Value.bool false), CV.lit (Value.string (bytesOf 1))]) :=
  pcallR (ors := [(2, Or.r (CV.lit (Value.int IntKind.i64 (i % (24 : Int))))), (6, Or.b true), (13, Or.b false), (16, Or.b false), (19, Or.b false), (22, Or.b false), (25, Or.b false), (28, Or.b false), (31, Or.b true), (32, Or.r (CV.agg [CV.lit (Value.bool false), CV.lit (Value.string (bytesOf 0)), CV.lit (Value.bool false), CV.lit (Value.string (bytesOf 0)), CV.lit (Value.bool false), CV.lit (Value.string (bytesOf 0)), CV.lit (Value.bool false), CV.lit (Value.string (bytesOf 0)), CV.lit (Value.bool false), CV.lit (Value.string (bytesOf 1))]))]) (by kernel_rfl) (.cons (Go.Fw.RMod_spec (i)) (.cons h1 (.cons h2 (.cons h3 (.cons h4 (.cons h5 (.cons h6 (.cons h7 (.cons h8 (.cons (Go.Fw.RQ6) (.cons (show 10 ≤ 10 from (by decide)) .nil)))))))))))
theorem RCo_p8 (i : Int) (h1 : (decide (i % (24 : Int) > (12 : Int))) = true) (h2 : (IntKind.i64.wrap ((24 : Int) - i % (24 : Int)) == (0 : Int)) = false) (h3 : (IntKind.i64.wrap ((24 : Int) - i % (24 : Int)) == (1 : Int)) = false) (h4 : (IntKind.i64.wrap ((24 : Int) - i % (24 : Int)) == (2 : Int)) = false) (h5 : (IntKind.i64.wrap ((24 : Int) - i % (24 : Int)) == (3 : Int)) = false) (h6 : (IntKind.i64.wrap ((24 : Int) - i % (24 : Int)) == (4 : Int)) = false) (h7 : (IntKind.i64.wrap ((24 : Int) - i % (24 : Int)) == (5 : Int)) = false) (h8 : (IntKind.i64.wrap ((24 : Int) - i % (24 : Int)) == (6 : Int)) = false) (s34_0 : (0 : Int) ≤ IntKind.i64.wrap ((12 : Int) - IntKind.i64.wrap ((24 : Int) - i % (24 : Int))) ∧ IntKind.i64.wrap ((12 : Int) - IntKind.i64.wrap ((24 : Int) - i % (24 : Int))) < (6 : Int)) (s35_0 : Sm3 (cos6 (IntKind.i64.wrap ((12 : Int) - IntKind.i64.wrap ((24 : Int) - i % (24 : Int)))).toNat)) : PCall P (34 : FuncId) [ci64 i] (numC (-cos6 (IntKind.i64.wrap ((12 : Int) - IntKind.i64.wrap ((24 : Int) - i % (24 : Int)))).toNat)) :=
  pcallR (ors := [(2, Or.r (CV.lit (Value.int IntKind.i64 (i % (24 : Int))))), (6, Or.b true), (13, Or.b false), (16, Or.b false), (19, Or.b false), (22, Or.b false), (25, Or.b false), (28, Or.b false), (31, Or.b false), (34, Or.r (numC (cos6 (IntKind.i64.wrap ((12 : Int) - IntKind.i64.wrap ((24 : Int) - i % (24 : Int)))).toNat))), (35, Or.r (numC (-cos6 (IntKind.i64.wrap ((12 : Int) - IntKind.i64.wrap ((24 : Int) - i % (24 : Int)))).toNat)))]) (by kernel_rfl) (.cons (Go.Fw.RMod_spec (i)) (.cons h1 (.cons h2 (.cons h3 (.cons h4 (.cons h5 (.cons h6 (.cons h7 (.cons h8 (.cons (Go.Fw.RCo_lo (IntKind.i64.wrap ((12 : Int) - IntKind.i64.wrap ((24 : Int) - i % (24 : Int)))) s34_0) (.cons (Go.Fw.RNegN_s (cos6 (IntKind.i64.wrap ((12 : Int) - IntKind.i64.wrap ((24 : Int) - i % (24 : Int)))).toNat) s35_0) (.cons (show 10 ≤ 10 from (by decide)) .nil))))))))))))
theorem RCo_p9 (i : Int) (h1 : (decide (i % (24 : Int) > (12 : Int))) = false) (h2 : (i % (24 : Int) == (0 : Int)) = true) : PCall P (34 : FuncId) [ci64 i] (CV.agg [CV.lit (Value.bool false), CV.lit (Value.string (bytesOf 1)), CV.lit (Value.bool false), CV.lit (Value.string (bytesOf 0)), CV.lit (Value.bool false), CV.lit (Value.string (bytesOf 0)), CV.lit (Value.bool false), CV.lit (Value.string (bytesOf 0)), CV.lit (Value.bool false), CV.lit (Value.string (bytesOf 1))]) :=
  pcallR (ors := [(2, Or.r (CV.lit (Value.int IntKind.i64 (i % (24 : Int))))), (6, Or.b false), (10, Or.b true), (11, Or.r (CV.agg [CV.lit (Value.bool false), CV.lit (Value.string (bytesOf 1)), CV.lit (Value.bool false), CV.lit (Value.string (bytesOf 0)), CV.lit (Value.bool false), CV.lit (Value.string (bytesOf 0)), CV.lit (Value.bool false), CV.lit (Value.string (bytesOf 0)), CV.lit (Value.bool false), CV.lit (Value.string (bytesOf 1))]))]) (by kernel_rfl) (.cons (Go.Fw.RMod_spec (i)) (.cons h1 (.cons h2 (.cons (Go.Fw.RQ0) (.cons (show 10 ≤ 10 from (by decide)) .nil)))))
theorem RCo_p10 (i : Int) (h1 : (decide (i % (24 : Int) > (12 : Int))) = false) (h2 : (i % (24 : Int) == (0 : Int)) = false) (h3 : (i % (24 : Int) == (1 : Int)) = true) : PCall P (34 : FuncId) [ci64 i] (CV.agg [CV.lit (Value.bool false), CV.lit (Value.string (bytesOf 0)), CV.lit (Value.bool false), CV.lit (Value.string (bytesOf 1)), CV.lit (Value.bool false), CV.lit (Value.string (bytesOf 0)), CV.lit (Value.bool false), CV.lit (Value.string (bytesOf 1)), CV.lit (Value.bool false), CV.lit (Value.string (bytesOf 4))]) :=
  pcallR (ors := [(2, Or.r (CV.lit (Value.int IntKind.i64 (i % (24 : Int))))), (6, Or.b false), (10, Or.b false), (13, Or.b true), (14, Or.r (CV.agg [CV.lit (Value.bool false), CV.lit (Value.string (bytesOf 0)), CV.lit (Value.bool false), CV.lit (Value.string (bytesOf 1)), CV.lit (Value.bool false), CV.lit (Value.string (bytesOf 0)), CV.lit (Value.bool false), CV.lit (Value.string (bytesOf 1)), CV.lit (Value.bool false), CV.lit (Value.string (bytesOf 4))]))]) (by kernel_rfl) (.cons (Go.Fw.RMod_spec (i)) (.cons h1 (.cons h2 (.cons h3 (.cons (Go.Fw.RQ1) (.cons (show 10 ≤ 10 from (by decide)) .nil))))))
theorem RCo_p11 (i : Int) (h1 : (decide (i % (24 : Int) > (12 : Int))) = false) (h2 : (i % (24 : Int) == (0 : Int)) = false) (h3 : (i % (24 : Int) == (1 : Int)) = false) (h4 : (i % (24 : Int) == (2 : Int)) = true) : PCall P (34 : FuncId) [ci64 i] (CV.agg [CV.lit (Value.bool false), CV.lit (Value.string (bytesOf 0)), CV.lit (Value.bool false), CV.lit (Value.string (bytesOf 0)), CV.lit (Value.bool false), CV.lit (Value.string (bytesOf 1)), CV.lit (Value.bool false), CV.lit (Value.string (bytesOf 0)), CV.lit (Value.bool false), CV.lit (Value.string (bytesOf 2))]) :=
  pcallR (ors := [(2, Or.r (CV.lit (Value.int IntKind.i64 (i % (24 : Int))))), (6, Or.b false), (10, Or.b false), (13, Or.b false), (16, Or.b true), (17, Or.r (CV.agg [CV.lit (Value.bool false), CV.lit (Value.string (bytesOf 0)), CV.lit (Value.bool false), CV.lit (Value.string (bytesOf 0)), CV.lit (Value.bool false), CV.lit (Value.string (bytesOf 1)), CV.lit (Value.bool false), CV.lit (Value.string (bytesOf 0)), CV.lit (Value.bool false), CV.lit (Value.string (bytesOf 2))]))]) (by kernel_rfl) (.cons (Go.Fw.RMod_spec (i)) (.cons h1 (.cons h2 (.cons h3 (.cons h4 (.cons (Go.Fw.RQ2) (.cons (show 10 ≤ 10 from (by decide)) .nil)))))))
theorem RCo_p12 (i : Int) (h1 : (decide (i % (24 : Int) > (12 : Int))) = false) (h2 : (i % (24 : Int) == (0 : Int)) = false) (h3 : (i % (24 : Int) == (1 : Int)) = false) (h4 : (i % (24 : Int) == (2 : Int)) = false) (h5 : (i % (24 : Int) == (3 : Int)) = true) : PCall P (34 : FuncId) [ci64 i] (CV.agg [CV.lit (Value.bool false), CV.lit (Value.string (bytesOf 0)), CV.lit (Value.bool false), CV.lit (Value.string (bytesOf 1)), CV.lit (Value.bool false), CV.lit (Value.string (bytesOf 0)), CV.lit (Value.bool false), CV.lit (Value.string (bytesOf 0)), CV.lit (Value.bool false), CV.lit (Value.string (bytesOf 2))]) :=
  pcallR (ors := [(2, Or.r (CV.lit (Value.int IntKind.i64 (i % (24 : Int))))), (6, Or.b false), (10, Or.b false), (13, Or.b false), (16, Or.b false), (19, Or.b true), (20, Or.r (CV.agg [CV.lit (Value.bool false), CV.lit (Value.string (bytesOf 0)), CV.lit (Value.bool false), CV.lit (Value.string (bytesOf 1)), CV.lit (Value.bool false), CV.lit (Value.string (bytesOf 0)), CV.lit (Value.bool false), CV.lit (Value.string (bytesOf 0)), CV.lit (Value.bool false), CV.lit (Value.string (bytesOf 2))]))]) (by kernel_rfl) (.cons (Go.Fw.RMod_spec (i)) (.cons h1 (.cons h2 (.cons h3 (.cons h4 (.cons h5 (.cons (Go.Fw.RQ3) (.cons (show 10 ≤ 10 from (by decide)) .nil))))))))
theorem RCo_p13 (i : Int) (h1 : (decide (i % (24 : Int) > (12 : Int))) = false) (h2 : (i % (24 : Int) == (0 : Int)) = false) (h3 : (i % (24 : Int) == (1 : Int)) = false) (h4 : (i % (24 : Int) == (2 : Int)) = false) (h5 : (i % (24 : Int) == (3 : Int)) = false) (h6 : (i % (24 : Int) == (4 : Int)) = true) : PCall P (34 : FuncId) [ci64 i] (CV.agg [CV.lit (Value.bool false), CV.lit (Value.string (bytesOf 1)), CV.lit (Value.bool false), CV.lit (Value.string (bytesOf 0)), CV.lit (Value.bool false), CV.lit (Value.string (bytesOf 0)), CV.lit (Value.bool false), CV.lit (Value.string (bytesOf 0)), CV.lit (Value.bool false), CV.lit (Value.string (bytesOf 2))]) :=
  pcallR (ors := [(2, Or.r (CV.lit (Value.int IntKind.i64 (i % (24 : Int))))), (6, Or.b false), (10, Or.b false), (13, Or.b false), (16, Or.b false), (19, Or.b false), (22, Or.b true), (23, Or.r (CV.agg [CV.lit (Value.bool false), CV.lit (Value.string (bytesOf 1)), CV.lit (Value.bool false), CV.lit (Value.string (bytesOf 0)), CV.lit (Value.bool false), CV.lit (Value.string (bytesOf 0)), CV.lit (Value.bool false), CV.lit (Value.string (bytesOf 0)), CV.lit (Value.bool false), CV.lit (Value.string (bytesOf 2))]))]) (by kernel_rfl) (.cons (Go.Fw.RMod_spec (i)) (.cons h1 (.cons h2 (.cons h3 (.cons h4 (.cons h5 (.cons h6 (.cons (Go.Fw.RQ4) (.cons (show 10 ≤ 10 from (by decide)) .nil)))))))))
theorem RCo_p14 (i : Int) (h1 : (decide (i % (24 : Int) > (12 : Int))) = false) (h2 : (i % (24 : Int) == (0 : Int)) = false) (h3 : (i % (24 : Int) == (1 : Int)) = false) (h4 : (i % (24 : Int) == (2 : Int)) = false) (h5 : (i % (24 : Int) == (3 : Int)) = false) (h6 : (i % (24 : Int) == (4 : Int)) = false) (h7 : (i % (24 : Int) == (5 : Int)) = true) : PCall P (34 : FuncId) [ci64 i] (CV.agg [CV.lit (Value.bool false), CV.lit (Value.string (bytesOf 0)), CV.lit (Value.bool true), CV.lit (Value.string (bytesOf 1)), CV.lit (Value.bool false), CV.lit (Value.string (bytesOf 0)), CV.lit (Value.bool false), CV.lit (Value.string (bytesOf 1)), CV.lit (Value.bool false), CV.lit (Value.string (bytesOf 4))]) :=
  pcallR (ors := [(2, Or.r (CV.lit (Value.int IntKind.i64 (i % (24 : Int))))), (6, Or.b false), (10, Or.b false), (13, Or.b false), (16, Or.b false), (19, Or.b false), (22, Or.b false), (25, Or.b true), (26, Or.r (CV.agg [CV.lit (Value.bool false), CV.lit (Value.string (bytesOf 0)), CV.lit (Value.bool true), CV.lit (Value.string (bytesOf 1)), CV.lit (Value.bool false), CV.lit (Value.string (bytesOf 0)), CV.lit (Value.bool false), CV.lit (Value.string (bytesOf 1)), CV.lit (Value.bool false), CV.lit (Value.string (bytesOf 4))]))]) (by kernel_rfl) (.cons (Go.Fw.RMod_spec (i)) (.cons h1 (.cons h2 (.cons h3 (.cons h4 (.cons h5 (.cons h6 (.cons h7 (.cons (Go.Fw.RQ5) (.cons (show 10 ≤ 10 from (by decide)) .nil))))))))))
theorem RCo_p15 (i : Int) (h1 : (decide (i % (24 : Int) > (12 : Int))) = false) (h2 : (i % (24 : Int) == (0 : Int)) = false) (h3 : (i % (24 : Int) == (1 : Int)) = false) (h4 : (i % (24 : Int) == (2 : Int)) = false) (h5 : (i % (24 : Int) == (3 : Int)) = false) (h6 : (i % (24 : Int) == (4 : Int)) = false) (h7 : (i % (24 : Int) == (5 : Int)) = false) (h8 : (i % (24 : Int) == (6 : Int)) = true) : PCall P (34 : FuncId) [ci64 i] (CV.agg [CV.lit (Value.bool false), CV.lit (Value.string (bytesOf 0)), CV.lit (Value.bool false), CV.lit (Value.string (bytesOf 0)), CV.lit (Value.bool false), CV.lit (Value.string (bytesOf 0)), CV.lit (Value.bool false), CV.lit (Value.string (bytesOf 0)), CV.lit (Value.bool false), CV.lit (Value.string (bytesOf 1))]) :=
  pcallR (ors := [(2, Or.r (CV.lit (Value.int IntKind.i64 (i % (24 : Int))))), (6, Or.b false), (10, Or.b false), (13, Or.b false), (16, Or.b false), (19, Or.b false), (22, Or.b false), (25, Or.b false), (28, Or.b true), (29, Or.r (CV.agg [CV.lit (Value.bool false), CV.lit (Value.string (bytesOf 0)), CV.lit (Value.bool false), CV.lit (Value.string (bytesOf 0)), CV.lit (Value.bool false), CV.lit (Value.string (bytesOf 0)), CV.lit (Value.bool false), CV.lit (Value.string (bytesOf 0)), CV.lit (Value.bool false), CV.lit (Value.string (bytesOf 1))]))]) (by kernel_rfl) (.cons (Go.Fw.RMod_spec (i)) (.cons h1 (.cons h2 (.cons h3 (.cons h4 (.cons h5 (.cons h6 (.cons h7 (.cons h8 (.cons (Go.Fw.RQ6) (.cons (show 10 ≤ 10 from (by decide)) .nil)))))))))))
theorem RCo_p16 (i : Int) (h1 : (decide (i % (24 : Int) > (12 : Int))) = false) (h2 : (i % (24 : Int) == (0 : Int)) = false) (h3 : (i % (24 : Int) == (1 : Int)) = false) (h4 : (i % (24 : Int) == (2 : Int)) = false) (h5 : (i % (24 : Int) == (3 : Int)) = false) (h6 : (i % (24 : Int) == (4 : Int)) = false) (h7 : (i % (24 : Int) == (5 : Int)) = false) (h8 : (i % (24 : Int) == (6 : Int)) = false) (s31_0 : (0 : Int) ≤ IntKind.i64.wrap ((12 : Int) - i % (24 : Int)) ∧ IntKind.i64.wrap ((12 : Int) - i % (24 : Int)) < (6 : Int)) (s32_0 : Sm3 (cos6 (IntKind.i64.wrap ((12 : Int) - i % (24 : Int))).toNat)) : PCall P (34 : FuncId) [ci64 i] (numC (-cos6 (IntKind.i64.wrap ((12 : Int) - i % (24 : Int))).toNat)) :=
  pcallR (ors := [(2, Or.r (CV.lit (Value.int IntKind.i64 (i % (24 : Int))))), (6, Or.b false), (10, Or.b false), (13, Or.b false), (16, Or.b false), (19, Or.b false), (22, Or.b false), (25, Or.b false), (28, Or.b false), (31, Or.r (numC (cos6 (IntKind.i64.wrap ((12 : Int) - i % (24 : Int))).toNat))), (32, Or.r (numC (-cos6 (IntKind.i64.wrap ((12 : Int) - i % (24 : Int))).toNat)))]) (by kernel_rfl) (.cons (Go.Fw.RMod_spec (i)) (.cons h1 (.cons h2 (.cons h3 (.cons h4 (.cons h5 (.cons h6 (.cons h7 (.cons h8 (.cons (Go.Fw.RCo_lo (IntKind.i64.wrap ((12 : Int) - i % (24 : Int))) s31_0) (.cons (Go.Fw.RNegN_s (cos6 (IntKind.i64.wrap ((12 : Int) - i % (24 : Int))).toNat) s32_0) (.cons (show 10 ≤ 10 from (by decide)) .nil))))))))))))
end Go.Fw
open Go
namespace Go.Fw
set_option maxRecDepth 100000
theorem cosK_of (i : Int) (k : Int) (hk : (if i % 24 > 12 then 24 - i % 24 else i % 24) = k) : cosK i = if k > 6 then -cos6 (12 - k).toNat else cos6 k.toNat := by
  subst hk; rfl
theorem RCos_spec (i : Int) : PCall P 34 [ci64 i] (numC (cosK i)) := by
  have e1 : IntKind.i64.wrap (24 - i % 24) = 24 - i % 24 := w64 (by omega)
  cases h1 : decide (i % 24 > 12) with
  | true =>
    have h1' := of_decide_eq_true h1
    rw [cosK_of i (24 - i % 24) (if_pos h1')]
    have e2 : IntKind.i64.wrap (12 - (24 - i % 24)) = 12 - (24 - i % 24) := w64 (by omega)
    have b : ∀ n : Int, 24 - i % 24 ≠ n → (IntKind.i64.wrap (24 - i % 24) == n) = false := fun n h => by rw [e1]; exact beq_eq_false_iff_ne.2 h
    have t : ∀ n : Int, 24 - i % 24 = n → (IntKind.i64.wrap (24 - i % 24) == n) = true := fun n h => by rw [e1]; exact beq_iff_eq.2 h
    have hk : 24 - i % 24 = 0 ∨ 24 - i % 24 = 1 ∨ 24 - i % 24 = 2 ∨ 24 - i % 24 = 3 ∨ 24 - i % 24 = 4 ∨ 24 - i % 24 = 5 ∨ 24 - i % 24 = 6 ∨ 24 - i % 24 > 6 := by omega
    rcases hk with h | h | h | h | h | h | h | h
    · rw [h]; exact RCo_p1 i h1 (t _ h)
    · rw [h]; exact RCo_p2 i h1 (b _ (by omega)) (t _ h)
    · rw [h]; exact RCo_p3 i h1 (b _ (by omega)) (b _ (by omega)) (t _ h)
    · rw [h]; exact RCo_p4 i h1 (b _ (by omega)) (b _ (by omega)) (b _ (by omega)) (t _ h)
    · rw [h]; exact RCo_p5 i h1 (b _ (by omega)) (b _ (by omega)) (b _ (by omega)) (b _ (by omega)) (t _ h)
    · rw [h]; exact RCo_p6 i h1 (b _ (by omega)) (b _ (by omega)) (b _ (by omega)) (b _ (by omega)) (b _ (by omega)) (t _ h)
    · rw [h]; exact RCo_p7 i h1 (b _ (by omega)) (b _ (by omega)) (b _ (by omega)) (b _ (by omega)) (b _ (by omega)) (b _ (by omega)) (t _ h)
    · rw [if_pos h]
      have := RCo_p8 i h1 (b _ (by omega)) (b _ (by omega)) (b _ (by omega)) (b _ (by omega)) (b _ (by omega)) (b _ (by omega)) (b _ (by omega)) (by rw [e1, e2]; omega) (Sm3_cos6 _)
      rw [e1, e2] at this
      exact this
  | false =>
    have h1' := of_decide_eq_false h1
    rw [cosK_of i (i % 24) (if_neg h1')]
    have e2 : IntKind.i64.wrap (12 - i % 24) = 12 - i % 24 := w64 (by omega)
    have b : ∀ n : Int, i % 24 ≠ n → (i % 24 == n) = false := fun n h => beq_eq_false_iff_ne.2 h
    have t : ∀ n : Int, i % 24 = n → (i % 24 == n) = true := fun n h => beq_iff_eq.2 h
    have hk : i % 24 = 0 ∨ i % 24 = 1 ∨ i % 24 = 2 ∨ i % 24 = 3 ∨ i % 24 = 4 ∨ i % 24 = 5 ∨ i % 24 = 6 ∨ i % 24 > 6 := by omega
    rcases hk with h | h | h | h | h | h | h | h
    · rw [h]; exact RCo_p9 i h1 (t _ h)
    · rw [h]; exact RCo_p10 i h1 (b _ (by omega)) (t _ h)
    · rw [h]; exact RCo_p11 i h1 (b _ (by omega)) (b _ (by omega)) (t _ h)
    · rw [h]; exact RCo_p12 i h1 (b _ (by omega)) (b _ (by omega)) (b _ (by omega)) (t _ h)
    · rw [h]; exact RCo_p13 i h1 (b _ (by omega)) (b _ (by omega)) (b _ (by omega)) (b _ (by omega)) (t _ h)
    · rw [h]; exact RCo_p14 i h1 (b _ (by omega)) (b _ (by omega)) (b _ (by omega)) (b _ (by omega)) (b _ (by omega)) (t _ h)
    · rw [h]; exact RCo_p15 i h1 (b _ (by omega)) (b _ (by omega)) (b _ (by omega)) (b _ (by omega)) (b _ (by omega)) (b _ (by omega)) (t _ h)
    · rw [if_pos h]
      have := RCo_p16 i h1 (b _ (by omega)) (b _ (by omega)) (b _ (by omega)) (b _ (by omega)) (b _ (by omega)) (b _ (by omega)) (b _ (by omega)) (by rw [e2]; omega) (Sm3_cos6 _)
      rw [e2] at this
      exact this
end Go.Fw
open Go
namespace Go.Fw
set_option maxRecDepth 100000

theorem RSi_p1 (i : Int) : PCall P (36 : FuncId) [ci64 i] (numC (cosK (IntKind.i64.wrap (i % (24 : Int) - (6 : Int))))) :=
  pcallR (ors := [(2, Or.r (CV.lit (Value.int IntKind.i64 (i % (24 : Int))))), (4, Or.r (numC (cosK (IntKind.i64.wrap (i % (24 : Int) - (6 : Int))))))]) (by kernel_rfl) (.cons (Go.Fw.RMod_spec (i)) (.cons (Go.Fw.RCos_spec (IntKind.i64.wrap (i % (24 : Int) - (6 : Int)))) (.cons (show 10 ≤ 10 from (by decide)) .nil)))
end Go.Fw
open Go
namespace Go.Fw
theorem RSin_spec (i : Int) : PCall P 36 [ci64 i] (numC (sinK i)) := (RSi_p1 i).eq (by rw [w64 (by omega)]; rfl)
end Go.Fw
