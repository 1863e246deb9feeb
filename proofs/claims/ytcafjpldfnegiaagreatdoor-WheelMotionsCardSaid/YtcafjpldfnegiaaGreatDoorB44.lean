/- The law WheelMotions of culetlaw: for every input it returns true and leaves its arguments as they read. Conditions: the two listed tables of unicode/utf8 hold what the program's text lays. -/
import Derived.Test.YtcafjpldfnegiaaGreatDoorB12
import Derived.Test.YtcafjpldfnegiaaGreatDoorB42
import Derived.Test.YtcafjpldfnegiaaGreatDoorB43
open Go Go.Proofs Go.Proofs.YtcafjpldfnegiaaGreatDoor
namespace Go.Fw
open Go.ChangeShapes Go.WideShapes Go.ChangeAt Go.RowKit
set_option maxRecDepth 100000
theorem j6_rest : restFacts Tryz.prog Tryz.f6 Rows.wheelMotionsSpec Rows.wheelMotionsRow = true := by kernel_rfl
theorem said6 : Rows.WheelMotionsSaid :=
  law_said (f := 6) (fn := Tryz.f6) #[.agg #[.int .i64 0, .bool false], .agg #[.int .i64 0, .bool false], .int .i64 0] (fun H => [.agg [.lit (.int .i64 0), .lit (.bool false)], .agg [.lit (.int .i64 0), .lit (.bool false)], .lit (.int .i64 0)]) rfl rfl rfl rfl rfl rfl rfl ⟨rfl, rfl, rfl, rfl, rfl⟩ rfl rfl rfl rfl rfl j6_fn Tryz.func6 (joined_of j6_in j6_un j6_re j6_va j6_rest)
    (of_decide_eq_true (by kernel_rfl)) (by unfold Func.isWrapper; first | (rw [if_pos (by decide +kernel)]; kernel_rfl) | (rw [if_neg (by decide +kernel)]; exact ⟨rfl, rfl⟩))
    (by kernel_rfl) (by kernel_rfl) rfl ⟨rfl, rfl, rfl, rfl⟩ rfl (fun os H enc => ⟨[], by kernel_rfl⟩) (fun os => by kernel_rfl) (fun os => by kernel_rfl) (fun os => by kernel_rfl) (fun os H enc => by kernel_rfl)
    (fun H enc W base args ds gs before hval hW => by
      refine law_contract rfl (by kernel_rfl) (fun ds hl => ?_) (by rw [Tryz.params6]; exact of_decide_eq_true (by kernel_rfl)) hW (lawCall6 W base args ds gs before hval hW)
      rw [show Tryz.f6.params.size = 3 from by rw [Tryz.params6]; rfl] at hl
      rcases ds with _ | ⟨a, _ | ⟨b, _ | ⟨c, _ | ⟨d, l⟩⟩⟩⟩ <;> first | rfl | (simp at hl))
theorem plain6 (f : FuncId) (fn : Func) (hf : Tryz.pinned.checked.prog.funcNamed "culet/culetlaw03.WheelMotions" = some f) (hfn : Tryz.pinned.checked.prog.funcs[f]? = some fn) :
    false = Tryz.pinned.checked.prog.looks [] ∧ ∀ (j : Nat) t, fn.params[j]? = some t → Tryz.pinned.checked.prog.wantsStandIn t = false := by
  obtain rfl : f = 6 := Option.some.inj (j6_fn.symm.trans hf) |>.symm
  obtain rfl : fn = Tryz.f6 := (Option.some.inj (Tryz.func6.symm.trans hfn)).symm
  refine ⟨fa_looks, fun j t ht => ?_⟩
  rw [Tryz.params6] at ht
  have := Array.mem_of_getElem? ht
  simp at this
  rcases this with rfl | rfl
  · exact (show Tryz.prog.wantsStandIn 31 = false by kernel_rfl)
  · exact (show Tryz.prog.wantsStandIn 3 = false by kernel_rfl)
theorem card6 : Rows.WheelMotionsCardSaid :=
  Claim7.holds_tied_plain_at .later [] _ _ _ _ said6 (fun _ h => by cases h) j6_wf (fun _ h => by cases h) wheelMotions_row_tie rfl ⟨rfl, rfl⟩ fa_main rfl plain6 j6_go
end Go.Fw
namespace Go.Proofs.YtcafjpldfnegiaaGreatDoor
theorem wheelMotions_holds : Rows.WheelMotionsCardSaid := Go.Fw.card6
end Go.Proofs.YtcafjpldfnegiaaGreatDoor
