/- A part of the proof that the law returns true for every input: an executor for the model's code, and what functions of the program compute. -/
import Derived.Test.YtcafjpldfnegiaaGreatDoorCards
import Derived.KernelRfl
open Go Go.Proofs Go.Proofs.YtcafjpldfnegiaaGreatDoor
namespace Go.Fw
set_option maxRecDepth 100000
theorem j9_in : (Rows.wheelIndexRow.inPlace == Tryz.prog.inPlace 9) = true := by kernel_rfl
theorem j9_un : (Rows.wheelIndexRow.unfollowed == Tryz.prog.unfollowed 9) = true := by kernel_rfl
theorem j9_re : (Rows.wheelIndexRow.recurses == Tryz.prog.recurses 9) = true := by kernel_rfl
theorem j9_va : (Rows.wheelIndexRow.named == Tryz.prog.varsNamed 9) = true := by kernel_rfl
theorem j9_go : false = Rows.wheelIndexRow.goesBy Tryz.prog := by kernel_rfl
theorem j9_fn : Tryz.prog.funcNamed "culet/culetlaw03.WheelIndex" = some 9 := by kernel_rfl
theorem j9_wf : Rows.wheelIndexRow.wfByText (OpenSpec.ofChange Rows.wheelIndexSpec) = true := by kernel_rfl
end Go.Fw
