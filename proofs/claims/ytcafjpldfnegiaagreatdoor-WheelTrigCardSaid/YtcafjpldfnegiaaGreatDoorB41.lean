/- The law WheelTrig of culetlaw: for every input it returns true and leaves its arguments as they read. Conditions: the two listed tables of unicode/utf8 hold what the program's text lays. -/
import Derived.Test.YtcafjpldfnegiaaGreatDoorB12
import Derived.Test.YtcafjpldfnegiaaGreatDoorB37
import Derived.Test.YtcafjpldfnegiaaGreatDoorB40
open Go Go.Proofs Go.Proofs.YtcafjpldfnegiaaGreatDoor
namespace Go.Fw
open Go.ChangeShapes Go.WideShapes Go.ChangeAt Go.RowKit
set_option maxRecDepth 100000
theorem j4_rest : restFacts Tryz.prog Tryz.f4 Rows.wheelTrigSpec Rows.wheelTrigRow = true := by kernel_rfl
theorem said4 : Rows.WheelTrigSaid :=
  law_said (f := 4) (fn := Tryz.f4) #[.int .i64 0] (fun H => [.lit (.int .i64 0)]) rfl rfl rfl rfl rfl rfl rfl ⟨rfl, rfl, rfl, rfl, rfl⟩ rfl rfl rfl rfl rfl j4_fn Tryz.func4 (joined_of j4_in j4_un j4_re j4_va j4_rest)
    (of_decide_eq_true (by kernel_rfl)) (by unfold Func.isWrapper; first | (rw [if_pos (by decide +kernel)]; kernel_rfl) | (rw [if_neg (by decide +kernel)]; exact ⟨rfl, rfl⟩))
    (by kernel_rfl) (by kernel_rfl) rfl ⟨rfl, rfl, rfl, rfl⟩ rfl (fun os H enc => ⟨[], by kernel_rfl⟩) (fun os => by kernel_rfl) (fun os => by kernel_rfl) (fun os => by kernel_rfl) (fun os H enc => by kernel_rfl)
    (fun H enc W base args ds gs before hval hW => by
      refine law_contract rfl (by kernel_rfl) (fun ds hl => ?_) (by rw [Tryz.params4]; exact of_decide_eq_true (by kernel_rfl)) hW (lawCall4 W base args ds gs before hval hW)
      rw [show Tryz.f4.params.size = 1 from by rw [Tryz.params4]; rfl] at hl
      rcases ds with _ | ⟨a, _ | ⟨b, l⟩⟩ <;> first | rfl | (simp at hl))
theorem plain4 (f : FuncId) (fn : Func) (hf : Tryz.pinned.checked.prog.funcNamed "culet/culetlaw03.WheelTrig" = some f) (hfn : Tryz.pinned.checked.prog.funcs[f]? = some fn) :
    false = Tryz.pinned.checked.prog.looks [] ∧ ∀ (j : Nat) t, fn.params[j]? = some t → Tryz.pinned.checked.prog.wantsStandIn t = false := by
  obtain rfl : f = 4 := Option.some.inj (j4_fn.symm.trans hf) |>.symm
  obtain rfl : fn = Tryz.f4 := (Option.some.inj (Tryz.func4.symm.trans hfn)).symm
  refine ⟨fa_looks, fun j t ht => ?_⟩
  rw [Tryz.params4] at ht
  have := Array.mem_of_getElem? ht
  simp at this
  subst this
  · exact (show Tryz.prog.wantsStandIn 3 = false by kernel_rfl)
theorem card4 : Rows.WheelTrigCardSaid :=
  Claim7.holds_tied_plain_at .later [] _ _ _ _ said4 (fun _ h => by cases h) j4_wf (fun _ h => by cases h) wheelTrig_row_tie rfl ⟨rfl, rfl⟩ fa_main rfl plain4 j4_go
end Go.Fw
namespace Go.Proofs.YtcafjpldfnegiaaGreatDoor
theorem wheelTrig_holds : Rows.WheelTrigCardSaid := Go.Fw.card4
end Go.Proofs.YtcafjpldfnegiaaGreatDoor
