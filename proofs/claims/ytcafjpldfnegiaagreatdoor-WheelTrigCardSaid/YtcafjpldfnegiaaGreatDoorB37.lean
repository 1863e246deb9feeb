/- A part of the proof that the law returns true for every input: an executor for the model's code, and what functions of the program compute. -/
import Derived.Test.YtcafjpldfnegiaaGreatDoorCards
import Derived.KernelRfl
open Go Go.Proofs Go.Proofs.YtcafjpldfnegiaaGreatDoor
namespace Go.Fw
set_option maxRecDepth 100000
theorem j4_in : (Rows.wheelTrigRow.inPlace == Tryz.prog.inPlace 4) = true := by kernel_rfl
theorem j4_un : (Rows.wheelTrigRow.unfollowed == Tryz.prog.unfollowed 4) = true := by kernel_rfl
theorem j4_re : (Rows.wheelTrigRow.recurses == Tryz.prog.recurses 4) = true := by kernel_rfl
theorem j4_va : (Rows.wheelTrigRow.named == Tryz.prog.varsNamed 4) = true := by kernel_rfl
theorem j4_go : false = Rows.wheelTrigRow.goesBy Tryz.prog := by kernel_rfl
theorem j4_fn : Tryz.prog.funcNamed "culet/culetlaw03.WheelTrig" = some 4 := by kernel_rfl
theorem j4_wf : Rows.wheelTrigRow.wfByText (OpenSpec.ofChange Rows.wheelTrigSpec) = true := by kernel_rfl
end Go.Fw
