/- A part of the proof that the law returns true for every input: an executor for the model's code, and what functions of the program compute. -/
import Derived.Test.YtcafjpldfnegiaaGreatDoorCards
import Derived.KernelRfl
open Go IntKind
open Go Go.Proofs Go.Proofs.YtcafjpldfnegiaaGreatDoor
namespace Go.Fw
set_option maxRecDepth 100000
theorem zsc:(Rows.calibrateModelRow.inPlace==Tryz.prog.inPlace 24)=true:=by kernel_rfl
theorem zrF:(Rows.calibrateModelRow.unfollowed==Tryz.prog.unfollowed 24)=true:=by kernel_rfl
theorem znL:(Rows.calibrateModelRow.recurses==Tryz.prog.recurses 24)=true:=by kernel_rfl
theorem zpO:(Rows.calibrateModelRow.named==Tryz.prog.varsNamed 24)=true:=by kernel_rfl
theorem zse:false=Rows.calibrateModelRow.goesBy Tryz.prog:=by kernel_rfl
theorem j24_fn:Tryz.prog.funcNamed "culet/culetlaw52.CalibrateModel" =some 24:=by kernel_rfl
theorem zqn:Rows.calibrateModelRow.wfByText (OpenSpec.ofChange Rows.calibrateModelSpec)=true:=by kernel_rfl
end Go.Fw
