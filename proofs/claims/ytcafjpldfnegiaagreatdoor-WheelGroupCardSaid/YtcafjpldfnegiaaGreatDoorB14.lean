/- A part of the proof that the law returns true for every input: an executor for the model's code, and what functions of the program compute. -/
import Derived.Test.YtcafjpldfnegiaaGreatDoorCards
import Derived.KernelRfl
open Go Go.Proofs Go.Proofs.YtcafjpldfnegiaaGreatDoor
namespace Go.Fw
set_option maxRecDepth 100000
theorem j10_in : (Rows.wheelGroupRow.inPlace == Tryz.prog.inPlace 10) = true := by kernel_rfl
theorem j10_un : (Rows.wheelGroupRow.unfollowed == Tryz.prog.unfollowed 10) = true := by kernel_rfl
theorem j10_re : (Rows.wheelGroupRow.recurses == Tryz.prog.recurses 10) = true := by kernel_rfl
theorem j10_va : (Rows.wheelGroupRow.named == Tryz.prog.varsNamed 10) = true := by kernel_rfl
theorem j10_go : false = Rows.wheelGroupRow.goesBy Tryz.prog := by kernel_rfl
theorem j10_fn : Tryz.prog.funcNamed "culet/culetlaw03.WheelGroup" = some 10 := by kernel_rfl
theorem j10_wf : Rows.wheelGroupRow.wfByText (OpenSpec.ofChange Rows.wheelGroupSpec) = true := by kernel_rfl
end Go.Fw
