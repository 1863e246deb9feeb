/- A part of the proof that the law returns true for every input: an executor for the model's code, and what functions of the program compute. -/
import Derived.Test.YtcafjpldfnegiaaGreatDoorCards
import Derived.KernelRfl
open Go Go.Proofs Go.Proofs.YtcafjpldfnegiaaGreatDoor
namespace Go.Fw
set_option maxRecDepth 100000
theorem j8_in : (Rows.wheelLengthsRow.inPlace == Tryz.prog.inPlace 8) = true := by kernel_rfl
theorem j8_un : (Rows.wheelLengthsRow.unfollowed == Tryz.prog.unfollowed 8) = true := by kernel_rfl
theorem j8_re : (Rows.wheelLengthsRow.recurses == Tryz.prog.recurses 8) = true := by kernel_rfl
theorem j8_va : (Rows.wheelLengthsRow.named == Tryz.prog.varsNamed 8) = true := by kernel_rfl
theorem j8_go : false = Rows.wheelLengthsRow.goesBy Tryz.prog := by kernel_rfl
theorem j8_fn : Tryz.prog.funcNamed "culet/culetlaw03.WheelLengths" = some 8 := by kernel_rfl
theorem j8_wf : Rows.wheelLengthsRow.wfByText (OpenSpec.ofChange Rows.wheelLengthsSpec) = true := by kernel_rfl
end Go.Fw
