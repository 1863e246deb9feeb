/- A part of the proof that the law returns true for every input: an executor for the model's code, and what functions of the program compute. -/
import Derived.Test.YtcafjpldfnegiaaGreatDoorB09
import Derived.Test.YtcafjpldfnegiaaGreatDoorB14
import Derived.Test.YtcafjpldfnegiaaGreatDoorB33
import Derived.Test.YtcafjpldfnegiaaGreatDoorB35
import Derived.Test.YtcafjpldfnegiaaGreatDoorB38
import Derived.KernelRfl
open Go
namespace Go.Fw
set_option maxRecDepth 100000

theorem L6_p1 (t : Int) (b : Bool) (t' : Int) (b' : Bool) (i : Int) (h1 : (idxM t b i == idxM t b i) = true) (h2 : ((compM t b t' b').1 == (compM t b t' b').1 && ((compM t b t' b').2 == (compM t b t' b').2 && true)) = true) : PCall P (6 : FuncId) [CV.agg [ci64 t, CV.lit (Value.bool b)], CV.agg [ci64 t', CV.lit (Value.bool b')], ci64 i] (CV.lit (Value.bool ((invM t b).1 == (invM t b).1 && ((invM t b).2 == (invM t b).2 && true)))) :=
  pcallR (ors := [(3, Or.r (CV.lit (Value.bool true))), (8, Or.r (CV.lit (Value.int IntKind.i64 (idxM t b i)))), (11, Or.r (CV.lit (Value.int IntKind.i64 (idxM t b i)))), (13, Or.b true), (16, Or.r (CV.agg [CV.lit (Value.int IntKind.i64 (compM t b t' b').1), CV.lit (Value.bool (compM t b t' b').2)])), (19, Or.r (CV.agg [CV.lit (Value.int IntKind.i64 (compM t b t' b').1), CV.lit (Value.bool (compM t b t' b').2)])), (22, Or.b true), (24, Or.r (CV.agg [CV.lit (Value.int IntKind.i64 (invM t b).1), CV.lit (Value.bool (invM t b).2)])), (26, Or.r (CV.agg [CV.lit (Value.int IntKind.i64 (invM t b).1), CV.lit (Value.bool (invM t b).2)]))]) (by kernel_rfl) (.cons (Go.Fw.aw_p1) (.cons (Go.Fw.WIndex_spec (t) (b) (i)) (.cons (Go.Fw.RIndex_spec (t) (b) (i)) (.cons h1 (.cons (Go.Fw.WComp_spec (t) (b) (t') (b')) (.cons (Go.Fw.RComp_spec (t) (b) (t') (b')) (.cons h2 (.cons (Go.Fw.WInv_spec (t) (b)) (.cons (Go.Fw.RInv_spec (t) (b)) .nil)))))))))
theorem L6_p2 (t : Int) (b : Bool) (t' : Int) (b' : Bool) (i : Int) (h1 : (idxM t b i == idxM t b i) = true) (h2 : ((compM t b t' b').1 == (compM t b t' b').1 && ((compM t b t' b').2 == (compM t b t' b').2 && true)) = false) : PCall P (6 : FuncId) [CV.agg [ci64 t, CV.lit (Value.bool b)], CV.agg [ci64 t', CV.lit (Value.bool b')], ci64 i] (CV.lit (Value.bool false)) :=
  pcallR (ors := [(3, Or.r (CV.lit (Value.bool true))), (8, Or.r (CV.lit (Value.int IntKind.i64 (idxM t b i)))), (11, Or.r (CV.lit (Value.int IntKind.i64 (idxM t b i)))), (13, Or.b true), (16, Or.r (CV.agg [CV.lit (Value.int IntKind.i64 (compM t b t' b').1), CV.lit (Value.bool (compM t b t' b').2)])), (19, Or.r (CV.agg [CV.lit (Value.int IntKind.i64 (compM t b t' b').1), CV.lit (Value.bool (compM t b t' b').2)])), (22, Or.b false)]) (by kernel_rfl) (.cons (Go.Fw.aw_p1) (.cons (Go.Fw.WIndex_spec (t) (b) (i)) (.cons (Go.Fw.RIndex_spec (t) (b) (i)) (.cons h1 (.cons (Go.Fw.WComp_spec (t) (b) (t') (b')) (.cons (Go.Fw.RComp_spec (t) (b) (t') (b')) (.cons h2 .nil)))))))
theorem L6_p3 (t : Int) (b : Bool) (t' : Int) (b' : Bool) (i : Int) (h1 : (idxM t b i == idxM t b i) = false) : PCall P (6 : FuncId) [CV.agg [ci64 t, CV.lit (Value.bool b)], CV.agg [ci64 t', CV.lit (Value.bool b')], ci64 i] (CV.lit (Value.bool false)) :=
  pcallR (ors := [(3, Or.r (CV.lit (Value.bool true))), (8, Or.r (CV.lit (Value.int IntKind.i64 (idxM t b i)))), (11, Or.r (CV.lit (Value.int IntKind.i64 (idxM t b i)))), (13, Or.b false)]) (by kernel_rfl) (.cons (Go.Fw.aw_p1) (.cons (Go.Fw.WIndex_spec (t) (b) (i)) (.cons (Go.Fw.RIndex_spec (t) (b) (i)) (.cons h1 .nil))))
end Go.Fw
open Go
namespace Go.Fw
theorem motions_true (t : Int) (b : Bool) (t' : Int) (b' : Bool) (i : Int) : PCall P 6 [.agg [ci64 t, .lit (.bool b)], .agg [ci64 t', .lit (.bool b')], ci64 i] (.lit (.bool true)) :=
  (L6_p1 t b t' b' i (by simp) (by simp)).eqB (by simp)
end Go.Fw
open Go Go.Proofs Go.Proofs.YtcafjpldfnegiaaGreatDoor
namespace Go.Fw
open Go.ChangeShapes Go.WideShapes Go.ChangeAt Go.RowKit
set_option maxRecDepth 100000
theorem lawCall6 {H : Type} {enc : TypeId × Value → H} (W : World) (base : Nat) (args : Array Value) (ds gs : List (DataW H)) (before : List MemPlace)
    (hval : ∀ (j : Nat) t v, Tryz.f6.params[j]? = some t → args[j]? = some v → Value.okWide Tryz.prog W .any base t v)
    (hW : DataW.Whole enc Tryz.prog Tryz.f6.params.toList Rows.wheelMotionsSpec.vars false W args.toList ds gs before) :
    Calls Tryz.prog 6 args W fun e W' => e = .returned (.bool true) ∧ Below W.heap.size W W' := by
  obtain ⟨p, q, hA, hV, _, _, _⟩ := hW
  rw [Tryz.params6] at hA hval
  obtain ⟨v0, vs0, d0, ds0, p0, q0, ha0, hd0, _, h0, r0⟩ := trodAll_cons hA
  obtain ⟨v1, vs1, d1, ds1, p1, q1, ha1, hd1, _, h1, r1⟩ := trodAll_cons r0
  obtain ⟨v2, vs2, d2, ds2, p2, q2, ha2, hd2, _, h2, r2⟩ := trodAll_cons r1
  obtain ⟨hz, hzd, _⟩ := trodAll_nil r2
  subst hz ha2 ha1
  obtain rfl : args = #[v0, v1, v2] := by cases args; simp_all
  obtain ⟨cs0, rfl, hc0⟩ := open_flat 8 (show flatTy Tryz.prog 8 31 = some [.i .i64, .b] from by kernel_rfl) (by kernel_rfl) (hval 0 31 v0 rfl rfl) h0
  simp only [CTs, CT.ok] at hc0
  obtain ⟨_, _, rfl, ⟨n0, rfl, _⟩, _, _, rfl, ⟨b0, rfl⟩, rfl⟩ := hc0
  obtain ⟨cs1, rfl, hc1⟩ := open_flat 8 (show flatTy Tryz.prog 8 31 = some [.i .i64, .b] from by kernel_rfl) (by kernel_rfl) (hval 1 31 v1 rfl rfl) h1
  simp only [CTs, CT.ok] at hc1
  obtain ⟨_, _, rfl, ⟨n1, rfl, _⟩, _, _, rfl, ⟨b1, rfl⟩, rfl⟩ := hc1
  obtain ⟨n2, rfl, _, _, hw2⟩ := open_int Tryz.underlying3 (hval 2 3 v2 rfl rfl) h2
  exact law_call (motions_true n0 b0 n1 b1 n2) ⟨_, _, rfl, rep_agg _ _, ⟨_, _, rfl, rep_agg _ _, ⟨_, _, rfl, rfl, rfl⟩⟩⟩
end Go.Fw
