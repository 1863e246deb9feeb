/- The law WheelCircle of culetlaw: for every input it returns true and leaves its arguments as they read. Conditions: the two listed tables of unicode/utf8 hold what the program's text lays. -/
import Derived.Test.YtcafjpldfnegiaaGreatDoorB12
import Derived.Test.YtcafjpldfnegiaaGreatDoorB45
import Derived.Test.YtcafjpldfnegiaaGreatDoorB46
open Go Go.Proofs Go.Proofs.YtcafjpldfnegiaaGreatDoor
namespace Go.Fw
open Go.ChangeShapes Go.WideShapes Go.ChangeAt Go.RowKit
set_option maxRecDepth 100000
theorem j5_rest : restFacts Tryz.prog Tryz.f5 Rows.wheelCircleSpec Rows.wheelCircleRow = true := by kernel_rfl
theorem said5 : Rows.WheelCircleSaid :=
  law_said (f := 5) (fn := Tryz.f5) #[.int .i8 0, .int .i8 0] (fun H => [.lit (.int .i8 0), .lit (.int .i8 0)]) rfl rfl rfl rfl rfl rfl rfl ⟨rfl, rfl, rfl, rfl, rfl⟩ rfl rfl rfl rfl rfl j5_fn Tryz.func5 (joined_of j5_in j5_un j5_re j5_va j5_rest)
    (of_decide_eq_true (by kernel_rfl)) (by unfold Func.isWrapper; first | (rw [if_pos (by decide +kernel)]; kernel_rfl) | (rw [if_neg (by decide +kernel)]; exact ⟨rfl, rfl⟩))
    (by kernel_rfl) (by kernel_rfl) rfl ⟨rfl, rfl, rfl, rfl⟩ rfl (fun os H enc => ⟨[], by kernel_rfl⟩) (fun os => by kernel_rfl) (fun os => by kernel_rfl) (fun os => by kernel_rfl) (fun os H enc => by kernel_rfl)
    (fun H enc W base args ds gs before hval hW => by
      refine law_contract rfl (by kernel_rfl) (fun ds hl => ?_) (by rw [Tryz.params5]; exact of_decide_eq_true (by kernel_rfl)) hW (lawCall5 W base args ds gs before hval hW)
      rw [show Tryz.f5.params.size = 2 from by rw [Tryz.params5]; rfl] at hl
      rcases ds with _ | ⟨a, _ | ⟨b, _ | ⟨c, l⟩⟩⟩ <;> first | rfl | (simp at hl))
theorem plain5 (f : FuncId) (fn : Func) (hf : Tryz.pinned.checked.prog.funcNamed "culet/culetlaw03.WheelCircle" = some f) (hfn : Tryz.pinned.checked.prog.funcs[f]? = some fn) :
    false = Tryz.pinned.checked.prog.looks [] ∧ ∀ (j : Nat) t, fn.params[j]? = some t → Tryz.pinned.checked.prog.wantsStandIn t = false := by
  obtain rfl : f = 5 := Option.some.inj (j5_fn.symm.trans hf) |>.symm
  obtain rfl : fn = Tryz.f5 := (Option.some.inj (Tryz.func5.symm.trans hfn)).symm
  refine ⟨fa_looks, fun j t ht => ?_⟩
  rw [Tryz.params5] at ht
  have := Array.mem_of_getElem? ht
  simp at this
  subst this
  · exact (show Tryz.prog.wantsStandIn 42 = false by kernel_rfl)
theorem card5 : Rows.WheelCircleCardSaid :=
  Claim7.holds_tied_plain_at .later [] _ _ _ _ said5 (fun _ h => by cases h) j5_wf (fun _ h => by cases h) wheelCircle_row_tie rfl ⟨rfl, rfl⟩ fa_main rfl plain5 j5_go
end Go.Fw
namespace Go.Proofs.YtcafjpldfnegiaaGreatDoor
theorem wheelCircle_holds : Rows.WheelCircleCardSaid := Go.Fw.card5
end Go.Proofs.YtcafjpldfnegiaaGreatDoor
