/- A part of the proof that the law returns true for every input: an executor for the model's code, and what functions of the program compute. -/
import Derived.Test.YtcafjpldfnegiaaGreatDoorCards
import Derived.KernelRfl
open Go IntKind
open Go Go.Proofs Go.Proofs.YtcafjpldfnegiaaGreatDoor
namespace Go.Fw
set_option maxRecDepth 100000
theorem zn0:(Rows.calibrateExactRow.inPlace==Tryz.prog.inPlace 14)=true:=by kernel_rfl
theorem zlH:(Rows.calibrateExactRow.unfollowed==Tryz.prog.unfollowed 14)=true:=by kernel_rfl
theorem zmg:(Rows.calibrateExactRow.recurses==Tryz.prog.recurses 14)=true:=by kernel_rfl
theorem zjS:(Rows.calibrateExactRow.named==Tryz.prog.varsNamed 14)=true:=by kernel_rfl
theorem zlK:false=Rows.calibrateExactRow.goesBy Tryz.prog:=by kernel_rfl
theorem j14_fn:Tryz.prog.funcNamed "culet/culetlaw52.CalibrateExact" =some 14:=by kernel_rfl
theorem zmn:Rows.calibrateExactRow.wfByText (OpenSpec.ofChange Rows.calibrateExactSpec)=true:=by kernel_rfl
end Go.Fw
