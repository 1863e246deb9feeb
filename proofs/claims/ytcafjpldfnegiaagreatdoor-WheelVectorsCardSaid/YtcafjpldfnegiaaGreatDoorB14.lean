/- A part of the proof that the law returns true for every input: an executor for the model's code, and what functions of the program compute. -/
import Derived.Test.YtcafjpldfnegiaaGreatDoorCards
import Derived.KernelRfl
open Go Go.Proofs Go.Proofs.YtcafjpldfnegiaaGreatDoor
namespace Go.Fw
set_option maxRecDepth 100000
theorem j7_in : (Rows.wheelVectorsRow.inPlace == Tryz.prog.inPlace 7) = true := by kernel_rfl
theorem j7_un : (Rows.wheelVectorsRow.unfollowed == Tryz.prog.unfollowed 7) = true := by kernel_rfl
theorem j7_re : (Rows.wheelVectorsRow.recurses == Tryz.prog.recurses 7) = true := by kernel_rfl
theorem j7_va : (Rows.wheelVectorsRow.named == Tryz.prog.varsNamed 7) = true := by kernel_rfl
theorem j7_go : false = Rows.wheelVectorsRow.goesBy Tryz.prog := by kernel_rfl
theorem j7_fn : Tryz.prog.funcNamed "culet/culetlaw03.WheelVectors" = some 7 := by kernel_rfl
theorem j7_wf : Rows.wheelVectorsRow.wfByText (OpenSpec.ofChange Rows.wheelVectorsSpec) = true := by kernel_rfl
end Go.Fw
