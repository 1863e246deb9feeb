/- A part of the proof that the law returns true for every input: an executor for the model's code, and what functions of the program compute. -/
import Derived.Test.YtcafjpldfnegiaaGreatDoorCards
import Derived.KernelRfl
open Go Go.Proofs Go.Proofs.YtcafjpldfnegiaaGreatDoor
namespace Go.Fw
set_option maxRecDepth 100000
theorem zoh:(Rows.planeChangesRow.inPlace==Tryz.prog.inPlace 23)=true:=by kernel_rfl
theorem zmU:(Rows.planeChangesRow.unfollowed==Tryz.prog.unfollowed 23)=true:=by kernel_rfl
theorem zpL:(Rows.planeChangesRow.recurses==Tryz.prog.recurses 23)=true:=by kernel_rfl
theorem zmZ:(Rows.planeChangesRow.named==Tryz.prog.varsNamed 23)=true:=by kernel_rfl
theorem zmw:false=Rows.planeChangesRow.goesBy Tryz.prog:=by kernel_rfl
theorem j23_fn:Tryz.prog.funcNamed "culet/culetlaw05.PlaneChanges" =some 23:=by kernel_rfl
theorem zq6:Rows.planeChangesRow.wfByText (OpenSpec.ofChange Rows.planeChangesSpec)=true:=by kernel_rfl
end Go.Fw
