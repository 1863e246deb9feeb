/- A part of the proof that the law returns true for every input: an executor for the model's code, and what functions of the program compute. -/
import Derived.Test.YtcafjpldfnegiaaGreatDoorB09
import Derived.Test.YtcafjpldfnegiaaGreatDoorB14
import Derived.Test.YtcafjpldfnegiaaGreatDoorB38
import Derived.Test.YtcafjpldfnegiaaGreatDoorB39
import Derived.KernelRfl
open Go
namespace Go.Fw
set_option maxRecDepth 100000

theorem L4_p1 (i : Int) (h1 : (i % (24 : Int) == i % (24 : Int)) = true) (h2 : (decide ((cosK i).c0 < (0 : Int)) == decide ((cosK i).c0 < (0 : Int)) && (bytesOf (cosK i).c0.natAbs == bytesOf (cosK i).c0.natAbs && true) && (decide ((cosK i).c1 < (0 : Int)) == decide ((cosK i).c1 < (0 : Int)) && (bytesOf (cosK i).c1.natAbs == bytesOf (cosK i).c1.natAbs && true) && (decide ((cosK i).c2 < (0 : Int)) == decide ((cosK i).c2 < (0 : Int)) && (bytesOf (cosK i).c2.natAbs == bytesOf (cosK i).c2.natAbs && true) && (decide ((cosK i).c3 < (0 : Int)) == decide ((cosK i).c3 < (0 : Int)) && (bytesOf (cosK i).c3.natAbs == bytesOf (cosK i).c3.natAbs && true) && true))) && (decide ((cosK i).d < (0 : Int)) == decide ((cosK i).d < (0 : Int)) && (bytesOf (cosK i).d.natAbs == bytesOf (cosK i).d.natAbs && true) && true)) = true) : PCall P (4 : FuncId) [ci64 i] (CV.lit (Value.bool (decide ((sinK i).c0 < (0 : Int)) == decide ((sinK i).c0 < (0 : Int)) && (bytesOf (sinK i).c0.natAbs == bytesOf (sinK i).c0.natAbs && true) && (decide ((sinK i).c1 < (0 : Int)) == decide ((sinK i).c1 < (0 : Int)) && (bytesOf (sinK i).c1.natAbs == bytesOf (sinK i).c1.natAbs && true) && (decide ((sinK i).c2 < (0 : Int)) == decide ((sinK i).c2 < (0 : Int)) && (bytesOf (sinK i).c2.natAbs == bytesOf (sinK i).c2.natAbs && true) && (decide ((sinK i).c3 < (0 : Int)) == decide ((sinK i).c3 < (0 : Int)) && (bytesOf (sinK i).c3.natAbs == bytesOf (sinK i).c3.natAbs && true) && true))) && (decide ((sinK i).d < (0 : Int)) == decide ((sinK i).d < (0 : Int)) && (bytesOf (sinK i).d.natAbs == bytesOf (sinK i).d.natAbs && true) && true)))) :=
  pcallR (ors := [(1, Or.r (CV.lit (Value.bool true))), (5, Or.r (CV.lit (Value.int IntKind.i64 (i % (24 : Int))))), (7, Or.r (CV.lit (Value.int IntKind.i64 (i % (24 : Int))))), (9, Or.b true), (11, Or.r (numC (cosK i))), (13, Or.r (numC (cosK i))), (16, Or.b true), (18, Or.r (numC (sinK i))), (20, Or.r (numC (sinK i)))]) (by kernel_rfl) (.cons (Go.Fw.aw_p1) (.cons (Go.Fw.WMod_spec (i)) (.cons (Go.Fw.RMod_spec (i)) (.cons h1 (.cons (Go.Fw.WCos_spec (i)) (.cons (Go.Fw.RCos_spec (i)) (.cons h2 (.cons (Go.Fw.WSin_spec (i)) (.cons (Go.Fw.RSin_spec (i)) .nil)))))))))
theorem L4_p2 (i : Int) (h1 : (i % (24 : Int) == i % (24 : Int)) = true) (h2 : (decide ((cosK i).c0 < (0 : Int)) == decide ((cosK i).c0 < (0 : Int)) && (bytesOf (cosK i).c0.natAbs == bytesOf (cosK i).c0.natAbs && true) && (decide ((cosK i).c1 < (0 : Int)) == decide ((cosK i).c1 < (0 : Int)) && (bytesOf (cosK i).c1.natAbs == bytesOf (cosK i).c1.natAbs && true) && (decide ((cosK i).c2 < (0 : Int)) == decide ((cosK i).c2 < (0 : Int)) && (bytesOf (cosK i).c2.natAbs == bytesOf (cosK i).c2.natAbs && true) && (decide ((cosK i).c3 < (0 : Int)) == decide ((cosK i).c3 < (0 : Int)) && (bytesOf (cosK i).c3.natAbs == bytesOf (cosK i).c3.natAbs && true) && true))) && (decide ((cosK i).d < (0 : Int)) == decide ((cosK i).d < (0 : Int)) && (bytesOf (cosK i).d.natAbs == bytesOf (cosK i).d.natAbs && true) && true)) = false) : PCall P (4 : FuncId) [ci64 i] (CV.lit (Value.bool false)) :=
  pcallR (ors := [(1, Or.r (CV.lit (Value.bool true))), (5, Or.r (CV.lit (Value.int IntKind.i64 (i % (24 : Int))))), (7, Or.r (CV.lit (Value.int IntKind.i64 (i % (24 : Int))))), (9, Or.b true), (11, Or.r (numC (cosK i))), (13, Or.r (numC (cosK i))), (16, Or.b false)]) (by kernel_rfl) (.cons (Go.Fw.aw_p1) (.cons (Go.Fw.WMod_spec (i)) (.cons (Go.Fw.RMod_spec (i)) (.cons h1 (.cons (Go.Fw.WCos_spec (i)) (.cons (Go.Fw.RCos_spec (i)) (.cons h2 .nil)))))))
theorem L4_p3 (i : Int) (h1 : (i % (24 : Int) == i % (24 : Int)) = false) : PCall P (4 : FuncId) [ci64 i] (CV.lit (Value.bool false)) :=
  pcallR (ors := [(1, Or.r (CV.lit (Value.bool true))), (5, Or.r (CV.lit (Value.int IntKind.i64 (i % (24 : Int))))), (7, Or.r (CV.lit (Value.int IntKind.i64 (i % (24 : Int))))), (9, Or.b false)]) (by kernel_rfl) (.cons (Go.Fw.aw_p1) (.cons (Go.Fw.WMod_spec (i)) (.cons (Go.Fw.RMod_spec (i)) (.cons h1 .nil))))
end Go.Fw
open Go
namespace Go.Fw
theorem trig_true (i : Int) : PCall P 4 [ci64 i] (.lit (.bool true)) :=
  (L4_p1 i (by simp) (by simp [bytes_beq])).eqB (by simp [bytes_beq])
end Go.Fw
open Go Go.Proofs Go.Proofs.YtcafjpldfnegiaaGreatDoor
namespace Go.Fw
open Go.ChangeShapes Go.WideShapes Go.ChangeAt Go.RowKit
set_option maxRecDepth 100000
theorem lawCall4 {H : Type} {enc : TypeId × Value → H} (W : World) (base : Nat) (args : Array Value) (ds gs : List (DataW H)) (before : List MemPlace)
    (hval : ∀ (j : Nat) t v, Tryz.f4.params[j]? = some t → args[j]? = some v → Value.okWide Tryz.prog W .any base t v)
    (hW : DataW.Whole enc Tryz.prog Tryz.f4.params.toList Rows.wheelTrigSpec.vars false W args.toList ds gs before) :
    Calls Tryz.prog 4 args W fun e W' => e = .returned (.bool true) ∧ Below W.heap.size W W' := by
  obtain ⟨p, q, hA, hV, _, _, _⟩ := hW
  rw [Tryz.params4] at hA hval
  obtain ⟨v0, vs0, d0, ds0, p0, q0, ha0, hd0, _, h0, r0⟩ := trodAll_cons hA
  obtain ⟨hz, hzd, _⟩ := trodAll_nil r0
  subst hz 
  obtain rfl : args = #[v0] := by cases args; simp_all
  obtain ⟨n0, rfl, _, _, hw0⟩ := open_int Tryz.underlying3 (hval 0 3 v0 rfl rfl) h0
  exact law_call (trig_true n0) ⟨_, _, rfl, rfl, rfl⟩
end Go.Fw
