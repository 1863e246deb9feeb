/- A part of the proof that the law returns true for every input: an executor for the model's code, and what functions of the program compute. -/
import Derived.Test.YtcafjpldfnegiaaGreatDoorCards
import Derived.KernelRfl
open Go Go.Proofs Go.Proofs.YtcafjpldfnegiaaGreatDoor
namespace Go.Fw
set_option maxRecDepth 100000
theorem j6_in : (Rows.wheelMotionsRow.inPlace == Tryz.prog.inPlace 6) = true := by kernel_rfl
theorem j6_un : (Rows.wheelMotionsRow.unfollowed == Tryz.prog.unfollowed 6) = true := by kernel_rfl
theorem j6_re : (Rows.wheelMotionsRow.recurses == Tryz.prog.recurses 6) = true := by kernel_rfl
theorem j6_va : (Rows.wheelMotionsRow.named == Tryz.prog.varsNamed 6) = true := by kernel_rfl
theorem j6_go : false = Rows.wheelMotionsRow.goesBy Tryz.prog := by kernel_rfl
theorem j6_fn : Tryz.prog.funcNamed "culet/culetlaw03.WheelMotions" = some 6 := by kernel_rfl
theorem j6_wf : Rows.wheelMotionsRow.wfByText (OpenSpec.ofChange Rows.wheelMotionsSpec) = true := by kernel_rfl
end Go.Fw
