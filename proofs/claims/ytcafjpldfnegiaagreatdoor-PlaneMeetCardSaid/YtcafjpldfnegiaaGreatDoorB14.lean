/- A part of the proof that the law returns true for every input: an executor for the model's code, and what functions of the program compute. -/
import Derived.Test.YtcafjpldfnegiaaGreatDoorCards
import Derived.KernelRfl
open Go Go.Proofs Go.Proofs.YtcafjpldfnegiaaGreatDoor
namespace Go.Fw
set_option maxRecDepth 100000
theorem znD:(Rows.planeMeetRow.inPlace==Tryz.prog.inPlace 20)=true:=by kernel_rfl
theorem zmP:(Rows.planeMeetRow.unfollowed==Tryz.prog.unfollowed 20)=true:=by kernel_rfl
theorem zmq:(Rows.planeMeetRow.recurses==Tryz.prog.recurses 20)=true:=by kernel_rfl
theorem zoE:(Rows.planeMeetRow.named==Tryz.prog.varsNamed 20)=true:=by kernel_rfl
theorem zn9:false=Rows.planeMeetRow.goesBy Tryz.prog:=by kernel_rfl
theorem j20_fn:Tryz.prog.funcNamed "culet/culetlaw05.PlaneMeet" =some 20:=by kernel_rfl
theorem zma:Rows.planeMeetRow.wfByText (OpenSpec.ofChange Rows.planeMeetSpec)=true:=by kernel_rfl
end Go.Fw
