/- A part of the proof that the law returns true for every input: an executor for the model's code, and what functions of the program compute. -/
import Derived.Test.YtcafjpldfnegiaaGreatDoorCards
import Derived.KernelRfl
open Go Go.Proofs Go.Proofs.YtcafjpldfnegiaaGreatDoor
namespace Go.Fw
set_option maxRecDepth 100000
theorem j22_in:(Rows.planeMovedRow.inPlace==Tryz.prog.inPlace 22)=true:=by kernel_rfl
theorem j22_un:(Rows.planeMovedRow.unfollowed==Tryz.prog.unfollowed 22)=true:=by kernel_rfl
theorem j22_re:(Rows.planeMovedRow.recurses==Tryz.prog.recurses 22)=true:=by kernel_rfl
theorem j22_va:(Rows.planeMovedRow.named==Tryz.prog.varsNamed 22)=true:=by kernel_rfl
theorem j22_go:false=Rows.planeMovedRow.goesBy Tryz.prog:=by kernel_rfl
theorem j22_fn:Tryz.prog.funcNamed "culet/culetlaw05.PlaneMoved" =some 22:=by kernel_rfl
theorem j22_wf:Rows.planeMovedRow.wfByText (OpenSpec.ofChange Rows.planeMovedSpec)=true:=by kernel_rfl
end Go.Fw
