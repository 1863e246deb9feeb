/- A part of the proof that the law returns true for every input: an executor for the model's code, and what functions of the program compute. -/
import Derived.Test.YtcafjpldfnegiaaGreatDoorCards
import Derived.KernelRfl
open Go Go.Proofs Go.Proofs.YtcafjpldfnegiaaGreatDoor
namespace Go.Fw
set_option maxRecDepth 100000
theorem zou:(Rows.planeOfRow.inPlace==Tryz.prog.inPlace 15)=true:=by kernel_rfl
theorem zqy:(Rows.planeOfRow.unfollowed==Tryz.prog.unfollowed 15)=true:=by kernel_rfl
theorem znv:(Rows.planeOfRow.recurses==Tryz.prog.recurses 15)=true:=by kernel_rfl
theorem zph:(Rows.planeOfRow.named==Tryz.prog.varsNamed 15)=true:=by kernel_rfl
theorem zqA:false=Rows.planeOfRow.goesBy Tryz.prog:=by kernel_rfl
theorem j15_fn:Tryz.prog.funcNamed "culet/culetlaw05.PlaneOf" =some 15:=by kernel_rfl
theorem zpK:Rows.planeOfRow.wfByText (OpenSpec.ofChange Rows.planeOfSpec)=true:=by kernel_rfl
end Go.Fw
