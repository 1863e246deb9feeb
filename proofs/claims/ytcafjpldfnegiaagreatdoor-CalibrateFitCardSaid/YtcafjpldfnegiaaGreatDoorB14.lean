/- A part of the proof that the law returns true for every input: an executor for the model's code, and what functions of the program compute. -/
import Derived.Test.YtcafjpldfnegiaaGreatDoorCards
import Derived.KernelRfl
open Go Go.Proofs Go.Proofs.YtcafjpldfnegiaaGreatDoor
namespace Go.Fw
set_option maxRecDepth 100000
theorem zoh:(Rows.calibrateFitRow.inPlace==Tryz.prog.inPlace 16)=true:=by kernel_rfl
theorem zmS:(Rows.calibrateFitRow.unfollowed==Tryz.prog.unfollowed 16)=true:=by kernel_rfl
theorem zqE:(Rows.calibrateFitRow.recurses==Tryz.prog.recurses 16)=true:=by kernel_rfl
theorem zpZ:(Rows.calibrateFitRow.named==Tryz.prog.varsNamed 16)=true:=by kernel_rfl
theorem zo8:false=Rows.calibrateFitRow.goesBy Tryz.prog:=by kernel_rfl
theorem j16_fn:Tryz.prog.funcNamed "culet/culetlaw52.CalibrateFit" =some 16:=by kernel_rfl
theorem zoO:Rows.calibrateFitRow.wfByText (OpenSpec.ofChange Rows.calibrateFitSpec)=true:=by kernel_rfl
end Go.Fw
