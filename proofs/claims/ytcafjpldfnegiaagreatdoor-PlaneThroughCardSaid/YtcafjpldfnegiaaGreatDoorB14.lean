/- A part of the proof that the law returns true for every input: an executor for the model's code, and what functions of the program compute. -/
import Derived.Test.YtcafjpldfnegiaaGreatDoorCards
import Derived.KernelRfl
open Go Go.Proofs Go.Proofs.YtcafjpldfnegiaaGreatDoor
namespace Go.Fw
set_option maxRecDepth 100000
theorem j19_in:(Rows.planeThroughRow.inPlace==Tryz.prog.inPlace 19)=true:=by kernel_rfl
theorem j19_un:(Rows.planeThroughRow.unfollowed==Tryz.prog.unfollowed 19)=true:=by kernel_rfl
theorem j19_re:(Rows.planeThroughRow.recurses==Tryz.prog.recurses 19)=true:=by kernel_rfl
theorem j19_va:(Rows.planeThroughRow.named==Tryz.prog.varsNamed 19)=true:=by kernel_rfl
theorem j19_go:false=Rows.planeThroughRow.goesBy Tryz.prog:=by kernel_rfl
theorem j19_fn:Tryz.prog.funcNamed "culet/culetlaw05.PlaneThrough" =some 19:=by kernel_rfl
theorem j19_wf:Rows.planeThroughRow.wfByText (OpenSpec.ofChange Rows.planeThroughSpec)=true:=by kernel_rfl
end Go.Fw
