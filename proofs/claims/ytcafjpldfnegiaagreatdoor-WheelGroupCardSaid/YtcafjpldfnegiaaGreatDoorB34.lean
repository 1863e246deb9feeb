/- The law WheelGroup of culetlaw: for every input it returns true and leaves its arguments as they read. Conditions: the two listed tables of unicode/utf8 hold what the program's text lays. -/
import Derived.Test.YtcafjpldfnegiaaGreatDoorB13
import Derived.Test.YtcafjpldfnegiaaGreatDoorB14
import Derived.Test.YtcafjpldfnegiaaGreatDoorB33
open Go Go.Proofs Go.Proofs.YtcafjpldfnegiaaGreatDoor
namespace Go.Fw
open Go.ChangeShapes Go.WideShapes Go.ChangeAt Go.RowKit
set_option maxRecDepth 100000
theorem j10_rest : restFacts Tryz.prog Tryz.f10 Rows.wheelGroupSpec Rows.wheelGroupRow = true := by kernel_rfl
theorem said10 : Rows.WheelGroupSaid :=
 law_said (f := 10) (fn := Tryz.f10) #[.agg #[.int .u8 0, .int .u8 0, .int .u8 0, .bool false, .string ⟨#[]⟩, .bool false, .string ⟨#[]⟩, .bool false, .string ⟨#[]⟩, .bool false, .string ⟨#[]⟩, .bool false, .string ⟨#[]⟩, .bool false, .string ⟨#[]⟩, .bool false, .string ⟨#[]⟩, .bool false, .string ⟨#[]⟩, .bool false, .string ⟨#[]⟩, .bool false, .string ⟨#[]⟩, .bool false, .string ⟨#[]⟩, .bool false, .string ⟨#[]⟩, .bool false, .string ⟨#[]⟩, .bool false, .string ⟨#[]⟩, .bool false, .string ⟨#[]⟩]] (fun H => [.agg [.lit (.int .u8 0), .lit (.int .u8 0), .lit (.int .u8 0), .agg [.agg [.agg [.agg [.lit (.bool false), .lit (.string [])], .agg [.lit (.bool false), .lit (.string [])], .agg [.lit (.bool false), .lit (.string [])], .agg [.lit (.bool false), .lit (.string [])]], .agg [.lit (.bool false), .lit (.string [])]], .agg [.agg [.agg [.lit (.bool false), .lit (.string [])], .agg [.lit (.bool false), .lit (.string [])], .agg [.lit (.bool false), .lit (.string [])], .agg [.lit (.bool false), .lit (.string [])]], .agg [.lit (.bool false), .lit (.string [])]], .agg [.agg [.agg [.lit (.bool false), .lit (.string [])], .agg [.lit (.bool false), .lit (.string [])], .agg [.lit (.bool false), .lit (.string [])], .agg [.lit (.bool false), .lit (.string [])]], .agg [.lit (.bool false), .lit (.string [])]]]]]) rfl rfl rfl rfl rfl rfl rfl ⟨rfl, rfl, rfl, rfl, rfl⟩ rfl rfl rfl rfl rfl j10_fn Tryz.func10 (joined_of j10_in j10_un j10_re j10_va j10_rest)
  (of_decide_eq_true (by kernel_rfl)) (by unfold Func.isWrapper; first | (rw [if_pos (by decide +kernel)]; kernel_rfl) | (rw [if_neg (by decide +kernel)]; exact ⟨rfl, rfl⟩))
  (by kernel_rfl) (by kernel_rfl) rfl ⟨rfl, rfl, rfl, rfl⟩ rfl (fun os H enc => ⟨[], by kernel_rfl⟩) (fun os => by kernel_rfl) (fun os => by kernel_rfl) (fun os => by kernel_rfl) (fun os H enc => by kernel_rfl)
  (fun H enc W base args ds gs before hval hW => by
   refine law_contract rfl (by kernel_rfl) (fun ds hl => ?_) (by rw [Tryz.params10]; exact of_decide_eq_true (by kernel_rfl)) hW (lawCall10 W base args ds gs before hval hW)
   rw [show Tryz.f10.params.size = 1 from by rw [Tryz.params10]; rfl] at hl
   rcases ds with _ | ⟨a, _ | ⟨b, l⟩⟩ <;> first | rfl | (simp at hl))
theorem plain10 (f : FuncId) (fn : Func) (hf : Tryz.pinned.checked.prog.funcNamed "culet/culetlaw03.WheelGroup" = some f) (hfn : Tryz.pinned.checked.prog.funcs[f]? = some fn) :
    false = Tryz.pinned.checked.prog.looks [] ∧ ∀ (j : Nat) t, fn.params[j]? = some t → Tryz.pinned.checked.prog.wantsStandIn t = false := by
 obtain rfl : f = 10 := Option.some.inj (j10_fn.symm.trans hf) |>.symm
 obtain rfl : fn = Tryz.f10 := (Option.some.inj (Tryz.func10.symm.trans hfn)).symm
 refine ⟨fa_looks, fun j t ht => ?_⟩
 rw [Tryz.params10] at ht
 have := Array.mem_of_getElem? ht
 simp at this
 subst this
 · exact (show Tryz.prog.wantsStandIn 66 = false by kernel_rfl)
theorem card10 : Rows.WheelGroupCardSaid :=
 Claim7.holds_tied_plain_at .later [] _ _ _ _ said10 (fun _ h => by cases h) j10_wf (fun _ h => by cases h) wheelGroup_row_tie rfl ⟨rfl, rfl⟩ fa_main rfl plain10 j10_go
end Go.Fw
namespace Go.Proofs.YtcafjpldfnegiaaGreatDoor
theorem wheelGroup_holds : Rows.WheelGroupCardSaid := Go.Fw.card10
end Go.Proofs.YtcafjpldfnegiaaGreatDoor
