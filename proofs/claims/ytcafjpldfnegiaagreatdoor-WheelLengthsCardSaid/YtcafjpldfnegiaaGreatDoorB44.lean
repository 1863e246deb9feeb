/- The law WheelLengths of culetlaw: for every input it returns true and leaves its arguments as they read. Conditions: the two listed tables of unicode/utf8 hold what the program's text lays. -/
import Derived.Test.YtcafjpldfnegiaaGreatDoorB13
import Derived.Test.YtcafjpldfnegiaaGreatDoorB14
import Derived.Test.YtcafjpldfnegiaaGreatDoorB43
open Go Go.Proofs Go.Proofs.YtcafjpldfnegiaaGreatDoor
namespace Go.Fw
open Go.ChangeShapes Go.WideShapes Go.ChangeAt Go.RowKit
set_option maxRecDepth 100000
theorem j8_rest : restFacts Tryz.prog Tryz.f8 Rows.wheelLengthsSpec Rows.wheelLengthsRow = true := by kernel_rfl
theorem said8 : Rows.WheelLengthsSaid :=
 law_said (f := 8) (fn := Tryz.f8) #[.agg #[.bool false, .string ⟨#[]⟩, .bool false, .string ⟨#[]⟩, .bool false, .string ⟨#[]⟩, .bool false, .string ⟨#[]⟩, .bool false, .string ⟨#[]⟩, .bool false, .string ⟨#[]⟩, .bool false, .string ⟨#[]⟩, .bool false, .string ⟨#[]⟩, .bool false, .string ⟨#[]⟩, .bool false, .string ⟨#[]⟩, .bool false, .string ⟨#[]⟩, .bool false, .string ⟨#[]⟩, .bool false, .string ⟨#[]⟩, .bool false, .string ⟨#[]⟩, .bool false, .string ⟨#[]⟩], .agg #[.bool false, .string ⟨#[]⟩, .bool false, .string ⟨#[]⟩, .bool false, .string ⟨#[]⟩, .bool false, .string ⟨#[]⟩, .bool false, .string ⟨#[]⟩, .bool false, .string ⟨#[]⟩, .bool false, .string ⟨#[]⟩, .bool false, .string ⟨#[]⟩, .bool false, .string ⟨#[]⟩, .bool false, .string ⟨#[]⟩, .bool false, .string ⟨#[]⟩, .bool false, .string ⟨#[]⟩, .bool false, .string ⟨#[]⟩, .bool false, .string ⟨#[]⟩, .bool false, .string ⟨#[]⟩], .int .u8 0] (fun H => [.agg [.agg [.agg [.agg [.lit (.bool false), .lit (.string [])], .agg [.lit (.bool false), .lit (.string [])], .agg [.lit (.bool false), .lit (.string [])], .agg [.lit (.bool false), .lit (.string [])]], .agg [.lit (.bool false), .lit (.string [])]], .agg [.agg [.agg [.lit (.bool false), .lit (.string [])], .agg [.lit (.bool false), .lit (.string [])], .agg [.lit (.bool false), .lit (.string [])], .agg [.lit (.bool false), .lit (.string [])]], .agg [.lit (.bool false), .lit (.string [])]], .agg [.agg [.agg [.lit (.bool false), .lit (.string [])], .agg [.lit (.bool false), .lit (.string [])], .agg [.lit (.bool false), .lit (.string [])], .agg [.lit (.bool false), .lit (.string [])]], .agg [.lit (.bool false), .lit (.string [])]]], .agg [.agg [.agg [.agg [.lit (.bool false), .lit (.string [])], .agg [.lit (.bool false), .lit (.string [])], .agg [.lit (.bool false), .lit (.string [])], .agg [.lit (.bool false), .lit (.string [])]], .agg [.lit (.bool false), .lit (.string [])]], .agg [.agg [.agg [.lit (.bool false), .lit (.string [])], .agg [.lit (.bool false), .lit (.string [])], .agg [.lit (.bool false), .lit (.string [])], .agg [.lit (.bool false), .lit (.string [])]], .agg [.lit (.bool false), .lit (.string [])]], .agg [.agg [.agg [.lit (.bool false), .lit (.string [])], .agg [.lit (.bool false), .lit (.string [])], .agg [.lit (.bool false), .lit (.string [])], .agg [.lit (.bool false), .lit (.string [])]], .agg [.lit (.bool false), .lit (.string [])]]], .lit (.int .u8 0)]) rfl rfl rfl rfl rfl rfl rfl ⟨rfl, rfl, rfl, rfl, rfl⟩ rfl rfl rfl rfl rfl j8_fn Tryz.func8 (joined_of j8_in j8_un j8_re j8_va j8_rest)
  (of_decide_eq_true (by kernel_rfl)) (by unfold Func.isWrapper; first | (rw [if_pos (by decide +kernel)]; kernel_rfl) | (rw [if_neg (by decide +kernel)]; exact ⟨rfl, rfl⟩))
  (by kernel_rfl) (by kernel_rfl) rfl ⟨rfl, rfl, rfl, rfl⟩ rfl (fun os H enc => ⟨[], by kernel_rfl⟩) (fun os => by kernel_rfl) (fun os => by kernel_rfl) (fun os => by kernel_rfl) (fun os H enc => by kernel_rfl)
  (fun H enc W base args ds gs before hval hW => by
   refine law_contract rfl (by kernel_rfl) (fun ds hl => ?_) (by rw [Tryz.params8]; exact of_decide_eq_true (by kernel_rfl)) hW (lawCall8 W base args ds gs before hval hW)
   rw [show Tryz.f8.params.size = 3 from by rw [Tryz.params8]; rfl] at hl
   rcases ds with _ | ⟨a, _ | ⟨b, _ | ⟨c, _ | ⟨d, l⟩⟩⟩⟩ <;> first | rfl | (simp at hl))
theorem plain8 (f : FuncId) (fn : Func) (hf : Tryz.pinned.checked.prog.funcNamed "culet/culetlaw03.WheelLengths" = some f) (hfn : Tryz.pinned.checked.prog.funcs[f]? = some fn) :
    false = Tryz.pinned.checked.prog.looks [] ∧ ∀ (j : Nat) t, fn.params[j]? = some t → Tryz.pinned.checked.prog.wantsStandIn t = false := by
 obtain rfl : f = 8 := Option.some.inj (j8_fn.symm.trans hf) |>.symm
 obtain rfl : fn = Tryz.f8 := (Option.some.inj (Tryz.func8.symm.trans hfn)).symm
 refine ⟨fa_looks, fun j t ht => ?_⟩
 rw [Tryz.params8] at ht
 have := Array.mem_of_getElem? ht
 simp at this
 rcases this with rfl | rfl
 · exact (show Tryz.prog.wantsStandIn 51 = false by kernel_rfl)
 · exact (show Tryz.prog.wantsStandIn 5 = false by kernel_rfl)
theorem card8 : Rows.WheelLengthsCardSaid :=
 Claim7.holds_tied_plain_at .later [] _ _ _ _ said8 (fun _ h => by cases h) j8_wf (fun _ h => by cases h) wheelLengths_row_tie rfl ⟨rfl, rfl⟩ fa_main rfl plain8 j8_go
end Go.Fw
namespace Go.Proofs.YtcafjpldfnegiaaGreatDoor
theorem wheelLengths_holds : Rows.WheelLengthsCardSaid := Go.Fw.card8
end Go.Proofs.YtcafjpldfnegiaaGreatDoor
