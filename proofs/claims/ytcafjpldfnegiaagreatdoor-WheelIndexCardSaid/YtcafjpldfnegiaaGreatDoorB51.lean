/- The law WheelIndex of culetlaw: for every input it returns true and leaves its arguments as they read. Conditions: the two listed tables of unicode/utf8 hold what the program's text lays. -/
import Derived.Test.YtcafjpldfnegiaaGreatDoorB12
import Derived.Test.YtcafjpldfnegiaaGreatDoorB48
import Derived.Test.YtcafjpldfnegiaaGreatDoorB50
open Go Go.Proofs Go.Proofs.YtcafjpldfnegiaaGreatDoor
namespace Go.Fw
open Go.ChangeShapes Go.WideShapes Go.ChangeAt Go.RowKit
set_option maxRecDepth 100000
theorem j9_rest : restFacts Tryz.prog Tryz.f9 Rows.wheelIndexSpec Rows.wheelIndexRow = true := by kernel_rfl
theorem said9 : Rows.WheelIndexSaid :=
  law_said (f := 9) (fn := Tryz.f9) #[.agg #[.int .i8 0, .int .u8 0, .int .u8 0, .bool false]] (fun H => [.agg [.lit (.int .i8 0), .lit (.int .u8 0), .lit (.int .u8 0), .lit (.bool false)]]) rfl rfl rfl rfl rfl rfl rfl ⟨rfl, rfl, rfl, rfl, rfl⟩ rfl rfl rfl rfl rfl j9_fn Tryz.func9 (joined_of j9_in j9_un j9_re j9_va j9_rest)
    (of_decide_eq_true (by kernel_rfl)) (by unfold Func.isWrapper; first | (rw [if_pos (by decide +kernel)]; kernel_rfl) | (rw [if_neg (by decide +kernel)]; exact ⟨rfl, rfl⟩))
    (by kernel_rfl) (by kernel_rfl) rfl ⟨rfl, rfl, rfl, rfl⟩ rfl (fun os H enc => ⟨[], by kernel_rfl⟩) (fun os => by kernel_rfl) (fun os => by kernel_rfl) (fun os => by kernel_rfl) (fun os H enc => by kernel_rfl)
    (fun H enc W base args ds gs before hval hW => by
      refine law_contract rfl (by kernel_rfl) (fun ds hl => ?_) (by rw [Tryz.params9]; exact of_decide_eq_true (by kernel_rfl)) hW (lawCall9 W base args ds gs before hval hW)
      rw [show Tryz.f9.params.size = 1 from by rw [Tryz.params9]; rfl] at hl
      rcases ds with _ | ⟨a, _ | ⟨b, l⟩⟩ <;> first | rfl | (simp at hl))
theorem plain9 (f : FuncId) (fn : Func) (hf : Tryz.pinned.checked.prog.funcNamed "culet/culetlaw03.WheelIndex" = some f) (hfn : Tryz.pinned.checked.prog.funcs[f]? = some fn) :
    false = Tryz.pinned.checked.prog.looks [] ∧ ∀ (j : Nat) t, fn.params[j]? = some t → Tryz.pinned.checked.prog.wantsStandIn t = false := by
  obtain rfl : f = 9 := Option.some.inj (j9_fn.symm.trans hf) |>.symm
  obtain rfl : fn = Tryz.f9 := (Option.some.inj (Tryz.func9.symm.trans hfn)).symm
  refine ⟨fa_looks, fun j t ht => ?_⟩
  rw [Tryz.params9] at ht
  have := Array.mem_of_getElem? ht
  simp at this
  subst this
  · exact (show Tryz.prog.wantsStandIn 62 = false by kernel_rfl)
theorem card9 : Rows.WheelIndexCardSaid :=
  Claim7.holds_tied_plain_at .later [] _ _ _ _ said9 (fun _ h => by cases h) j9_wf (fun _ h => by cases h) wheelIndex_row_tie rfl ⟨rfl, rfl⟩ fa_main rfl plain9 j9_go
end Go.Fw
namespace Go.Proofs.YtcafjpldfnegiaaGreatDoor
theorem wheelIndex_holds : Rows.WheelIndexCardSaid := Go.Fw.card9
end Go.Proofs.YtcafjpldfnegiaaGreatDoor
