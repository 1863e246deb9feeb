/- A part of the proof that the law returns true for every input: an executor for the model's code, and what functions of the program compute. -/
import Derived.Test.YtcafjpldfnegiaaGreatDoorCards
import Derived.KernelRfl
open Go Go.Proofs Go.Proofs.YtcafjpldfnegiaaGreatDoor
namespace Go.Fw
set_option maxRecDepth 100000
theorem j5_in : (Rows.wheelCircleRow.inPlace == Tryz.prog.inPlace 5) = true := by kernel_rfl
theorem j5_un : (Rows.wheelCircleRow.unfollowed == Tryz.prog.unfollowed 5) = true := by kernel_rfl
theorem j5_re : (Rows.wheelCircleRow.recurses == Tryz.prog.recurses 5) = true := by kernel_rfl
theorem j5_va : (Rows.wheelCircleRow.named == Tryz.prog.varsNamed 5) = true := by kernel_rfl
theorem j5_go : false = Rows.wheelCircleRow.goesBy Tryz.prog := by kernel_rfl
theorem j5_fn : Tryz.prog.funcNamed "culet/culetlaw03.WheelCircle" = some 5 := by kernel_rfl
theorem j5_wf : Rows.wheelCircleRow.wfByText (OpenSpec.ofChange Rows.wheelCircleSpec) = true := by kernel_rfl
end Go.Fw
