/- A part of the proof that the law returns true for every input: an executor for the model's code, and what functions of the program compute. -/
import Derived.Test.YtcafjpldfnegiaaGreatDoorCards
import Derived.KernelRfl
open Go Go.Proofs Go.Proofs.YtcafjpldfnegiaaGreatDoor
namespace Go.Fw
set_option maxRecDepth 100000
theorem zo9:(Rows.calibrateTurnedRow.inPlace==Tryz.prog.inPlace 12)=true:=by kernel_rfl
theorem zoh:(Rows.calibrateTurnedRow.unfollowed==Tryz.prog.unfollowed 12)=true:=by kernel_rfl
theorem zlv:(Rows.calibrateTurnedRow.recurses==Tryz.prog.recurses 12)=true:=by kernel_rfl
theorem zkH:(Rows.calibrateTurnedRow.named==Tryz.prog.varsNamed 12)=true:=by kernel_rfl
theorem zo1:false=Rows.calibrateTurnedRow.goesBy Tryz.prog:=by kernel_rfl
theorem j12_fn:Tryz.prog.funcNamed "culet/culetlaw52.CalibrateTurned" =some 12:=by kernel_rfl
theorem zms:Rows.calibrateTurnedRow.wfByText (OpenSpec.ofChange Rows.calibrateTurnedSpec)=true:=by kernel_rfl
end Go.Fw
