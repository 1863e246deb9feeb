/- The law WheelOrders of culetlaw: for every input it returns true and leaves its arguments as they read. Conditions: the two listed tables of unicode/utf8 hold what the program's text lays. -/
import Derived.Test.YtcafjpldfnegiaaGreatDoorB12
import Derived.Test.YtcafjpldfnegiaaGreatDoorB13
import Derived.Test.YtcafjpldfnegiaaGreatDoorB35
open Go Go.Proofs Go.Proofs.YtcafjpldfnegiaaGreatDoor
namespace Go.Fw
open Go.ChangeShapes Go.WideShapes Go.ChangeAt Go.RowKit
set_option maxRecDepth 100000
theorem j3_rest : restFacts Tryz.prog Tryz.f3 Rows.wheelOrdersSpec Rows.wheelOrdersRow = true := by kernel_rfl
theorem said3 : Rows.WheelOrdersSaid :=
  law_said (f := 3) (fn := Tryz.f3) #[.int .i64 0, .int .i64 1, .bool false] (fun H => [.lit (.int .i64 0), .lit (.int .i64 1), .lit (.bool false)]) rfl rfl rfl rfl rfl rfl rfl ⟨rfl, rfl, rfl, rfl, rfl⟩ rfl rfl rfl rfl rfl j3_fn Tryz.func3 (joined_of j3_in j3_un j3_re j3_va j3_rest)
    (of_decide_eq_true (by kernel_rfl)) (by unfold Func.isWrapper; first | (rw [if_pos (by decide +kernel)]; kernel_rfl) | (rw [if_neg (by decide +kernel)]; exact ⟨rfl, rfl⟩))
    (by kernel_rfl) (by kernel_rfl) rfl ⟨rfl, rfl, rfl, rfl⟩ rfl (fun os H enc => ⟨[], by kernel_rfl⟩) (fun os => by kernel_rfl) (fun os => by kernel_rfl) (fun os => by kernel_rfl) (fun os H enc => by kernel_rfl)
    (fun H enc W base args ds gs before hval hW => by
      refine law_contract rfl (by kernel_rfl) (fun ds hl => ?_) (by rw [Tryz.params3]; exact of_decide_eq_true (by kernel_rfl)) hW (lawCall3 W base args ds gs before hval hW)
      rw [show Tryz.f3.params.size = 3 from by rw [Tryz.params3]; rfl] at hl
      rcases ds with _ | ⟨a, _ | ⟨b, _ | ⟨c, _ | ⟨d, l⟩⟩⟩⟩ <;> first | rfl | (simp at hl))
theorem plain3 (f : FuncId) (fn : Func) (hf : Tryz.pinned.checked.prog.funcNamed "culet/culetlaw03.WheelOrders" = some f) (hfn : Tryz.pinned.checked.prog.funcs[f]? = some fn) :
    false = Tryz.pinned.checked.prog.looks [] ∧ ∀ (j : Nat) t, fn.params[j]? = some t → Tryz.pinned.checked.prog.wantsStandIn t = false := by
  obtain rfl : f = 3 := Option.some.inj (j3_fn.symm.trans hf) |>.symm
  obtain rfl : fn = Tryz.f3 := (Option.some.inj (Tryz.func3.symm.trans hfn)).symm
  refine ⟨fa_looks, fun j t ht => ?_⟩
  rw [Tryz.params3] at ht
  have := Array.mem_of_getElem? ht
  simp at this
  rcases this with rfl | rfl
  · exact (show Tryz.prog.wantsStandIn 3 = false by kernel_rfl)
  · exact (show Tryz.prog.wantsStandIn 4 = false by kernel_rfl)
theorem card3 : Rows.WheelOrdersCardSaid :=
  Claim7.holds_tied_plain_at .later [] _ _ _ _ said3 (fun _ h => by cases h) j3_wf (fun _ h => by cases h) wheelOrders_row_tie rfl ⟨rfl, rfl⟩ fa_main rfl plain3 j3_go
end Go.Fw
namespace Go.Proofs.YtcafjpldfnegiaaGreatDoor
theorem wheelOrders_holds : Rows.WheelOrdersCardSaid := Go.Fw.card3
end Go.Proofs.YtcafjpldfnegiaaGreatDoor
