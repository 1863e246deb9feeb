/- A part of the proof that the law returns true for every input: an executor for the model's code, and what functions of the program compute. -/
import Derived.Test.YtcafjpldfnegiaaGreatDoorCards
import Derived.KernelRfl
open Go Go.Proofs Go.Proofs.YtcafjpldfnegiaaGreatDoor
namespace Go.Fw
set_option maxRecDepth 100000
theorem j3_in : (Rows.wheelOrdersRow.inPlace == Tryz.prog.inPlace 3) = true := by kernel_rfl
theorem j3_un : (Rows.wheelOrdersRow.unfollowed == Tryz.prog.unfollowed 3) = true := by kernel_rfl
theorem j3_re : (Rows.wheelOrdersRow.recurses == Tryz.prog.recurses 3) = true := by kernel_rfl
theorem j3_va : (Rows.wheelOrdersRow.named == Tryz.prog.varsNamed 3) = true := by kernel_rfl
theorem j3_go : false = Rows.wheelOrdersRow.goesBy Tryz.prog := by kernel_rfl
theorem j3_fn : Tryz.prog.funcNamed "culet/culetlaw03.WheelOrders" = some 3 := by kernel_rfl
theorem j3_wf : Rows.wheelOrdersRow.wfByText (OpenSpec.ofChange Rows.wheelOrdersSpec) = true := by kernel_rfl
end Go.Fw
