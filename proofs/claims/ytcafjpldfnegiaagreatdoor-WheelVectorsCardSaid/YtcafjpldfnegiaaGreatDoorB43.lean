/- The law WheelVectors of culetlaw: for every input it returns true and leaves its arguments as they read. Conditions: the two listed tables of unicode/utf8 hold what the program's text lays. -/
import Derived.Test.YtcafjpldfnegiaaGreatDoorB13
import Derived.Test.YtcafjpldfnegiaaGreatDoorB14
import Derived.Test.YtcafjpldfnegiaaGreatDoorB42
open Go Go.Proofs Go.Proofs.YtcafjpldfnegiaaGreatDoor
namespace Go.Fw
open Go.ChangeShapes Go.WideShapes Go.ChangeAt Go.RowKit
set_option maxRecDepth 100000
theorem j7_rest : restFacts Tryz.prog Tryz.f7 Rows.wheelVectorsSpec Rows.wheelVectorsRow = true := by kernel_rfl
theorem said7 : Rows.WheelVectorsSaid :=
 law_said (f := 7) (fn := Tryz.f7) #[.agg #[.bool false, .string ⟨#[]⟩, .bool false, .string ⟨#[]⟩, .bool false, .string ⟨#[]⟩, .bool false, .string ⟨#[]⟩, .bool false, .string ⟨#[]⟩, .bool false, .string ⟨#[]⟩, .bool false, .string ⟨#[]⟩, .bool false, .string ⟨#[]⟩, .bool false, .string ⟨#[]⟩, .bool false, .string ⟨#[]⟩, .bool false, .string ⟨#[]⟩, .bool false, .string ⟨#[]⟩, .bool false, .string ⟨#[]⟩, .bool false, .string ⟨#[]⟩, .bool false, .string ⟨#[]⟩], .int .i64 0, .agg #[.int .i64 0, .bool false]] (fun H => [.agg [.agg [.agg [.agg [.lit (.bool false), .lit (.string [])], .agg [.lit (.bool false), .lit (.string [])], .agg [.lit (.bool false), .lit (.string [])], .agg [.lit (.bool false), .lit (.string [])]], .agg [.lit (.bool false), .lit (.string [])]], .agg [.agg [.agg [.lit (.bool false), .lit (.string [])], .agg [.lit (.bool false), .lit (.string [])], .agg [.lit (.bool false), .lit (.string [])], .agg [.lit (.bool false), .lit (.string [])]], .agg [.lit (.bool false), .lit (.string [])]], .agg [.agg [.agg [.lit (.bool false), .lit (.string [])], .agg [.lit (.bool false), .lit (.string [])], .agg [.lit (.bool false), .lit (.string [])], .agg [.lit (.bool false), .lit (.string [])]], .agg [.lit (.bool false), .lit (.string [])]]], .lit (.int .i64 0), .agg [.lit (.int .i64 0), .lit (.bool false)]]) rfl rfl rfl rfl rfl rfl rfl ⟨rfl, rfl, rfl, rfl, rfl⟩ rfl rfl rfl rfl rfl j7_fn Tryz.func7 (joined_of j7_in j7_un j7_re j7_va j7_rest)
  (of_decide_eq_true (by kernel_rfl)) (by unfold Func.isWrapper; first | (rw [if_pos (by decide +kernel)]; kernel_rfl) | (rw [if_neg (by decide +kernel)]; exact ⟨rfl, rfl⟩))
  (by kernel_rfl) (by kernel_rfl) rfl ⟨rfl, rfl, rfl, rfl⟩ rfl (fun os H enc => ⟨[], by kernel_rfl⟩) (fun os => by kernel_rfl) (fun os => by kernel_rfl) (fun os => by kernel_rfl) (fun os H enc => by kernel_rfl)
  (fun H enc W base args ds gs before hval hW => by
   refine law_contract rfl (by kernel_rfl) (fun ds hl => ?_) (by rw [Tryz.params7]; exact of_decide_eq_true (by kernel_rfl)) hW (lawCall7 W base args ds gs before hval hW)
   rw [show Tryz.f7.params.size = 3 from by rw [Tryz.params7]; rfl] at hl
   rcases ds with _ | ⟨a, _ | ⟨b, _ | ⟨c, _ | ⟨d, l⟩⟩⟩⟩ <;> first | rfl | (simp at hl))
theorem plain7 (f : FuncId) (fn : Func) (hf : Tryz.pinned.checked.prog.funcNamed "culet/culetlaw03.WheelVectors" = some f) (hfn : Tryz.pinned.checked.prog.funcs[f]? = some fn) :
    false = Tryz.pinned.checked.prog.looks [] ∧ ∀ (j : Nat) t, fn.params[j]? = some t → Tryz.pinned.checked.prog.wantsStandIn t = false := by
 obtain rfl : f = 7 := Option.some.inj (j7_fn.symm.trans hf) |>.symm
 obtain rfl : fn = Tryz.f7 := (Option.some.inj (Tryz.func7.symm.trans hfn)).symm
 refine ⟨fa_looks, fun j t ht => ?_⟩
 rw [Tryz.params7] at ht
 have := Array.mem_of_getElem? ht
 simp at this
 rcases this with rfl | rfl | rfl
 · exact (show Tryz.prog.wantsStandIn 51 = false by kernel_rfl)
 · exact (show Tryz.prog.wantsStandIn 3 = false by kernel_rfl)
 · exact (show Tryz.prog.wantsStandIn 31 = false by kernel_rfl)
theorem card7 : Rows.WheelVectorsCardSaid :=
 Claim7.holds_tied_plain_at .later [] _ _ _ _ said7 (fun _ h => by cases h) j7_wf (fun _ h => by cases h) wheelVectors_row_tie rfl ⟨rfl, rfl⟩ fa_main rfl plain7 j7_go
end Go.Fw
namespace Go.Proofs.YtcafjpldfnegiaaGreatDoor
theorem wheelVectors_holds : Rows.WheelVectorsCardSaid := Go.Fw.card7
end Go.Proofs.YtcafjpldfnegiaaGreatDoor
