/- A part of the proof that the law returns true for every input: an executor for the model's code, and what functions of the program compute. -/
import Derived.Test.YtcafjpldfnegiaaGreatDoorCards
import Derived.KernelRfl
open Go Go.Proofs Go.Proofs.YtcafjpldfnegiaaGreatDoor
namespace Go.Fw
set_option maxRecDepth 100000
theorem zlv:(Rows.calibrateNormalRow.inPlace==Tryz.prog.inPlace 11)=true:=by kernel_rfl
theorem zkX:(Rows.calibrateNormalRow.unfollowed==Tryz.prog.unfollowed 11)=true:=by kernel_rfl
theorem zlW:(Rows.calibrateNormalRow.recurses==Tryz.prog.recurses 11)=true:=by kernel_rfl
theorem zma:(Rows.calibrateNormalRow.named==Tryz.prog.varsNamed 11)=true:=by kernel_rfl
theorem zmM:false=Rows.calibrateNormalRow.goesBy Tryz.prog:=by kernel_rfl
theorem j11_fn:Tryz.prog.funcNamed "culet/culetlaw52.CalibrateNormal" =some 11:=by kernel_rfl
theorem zmJ:Rows.calibrateNormalRow.wfByText (OpenSpec.ofChange Rows.calibrateNormalSpec)=true:=by kernel_rfl
end Go.Fw
