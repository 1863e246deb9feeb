/- A part of the proof that the law returns true for every input: an executor for the model's code, and what functions of the program compute. -/
import Derived.Test.YtcafjpldfnegiaaGreatDoorCards
import Derived.KernelRfl
open Go Go.Proofs Go.Proofs.YtcafjpldfnegiaaGreatDoor
namespace Go.Fw
set_option maxRecDepth 100000
theorem zo6:(Rows.planeSettingsRow.inPlace==Tryz.prog.inPlace 17)=true:=by kernel_rfl
theorem znw:(Rows.planeSettingsRow.unfollowed==Tryz.prog.unfollowed 17)=true:=by kernel_rfl
theorem zn9:(Rows.planeSettingsRow.recurses==Tryz.prog.recurses 17)=true:=by kernel_rfl
theorem zpC:(Rows.planeSettingsRow.named==Tryz.prog.varsNamed 17)=true:=by kernel_rfl
theorem znr:false=Rows.planeSettingsRow.goesBy Tryz.prog:=by kernel_rfl
theorem j17_fn:Tryz.prog.funcNamed "culet/culetlaw05.PlaneSettings" =some 17:=by kernel_rfl
theorem zmf:Rows.planeSettingsRow.wfByText (OpenSpec.ofChange Rows.planeSettingsSpec)=true:=by kernel_rfl
end Go.Fw
