/- A part of the proof that the law returns true for every input: an executor for the model's code, and what functions of the program compute. -/
import Derived.Test.YtcafjpldfnegiaaGreatDoorCards
import Derived.KernelRfl
open Go Go.Proofs Go.Proofs.YtcafjpldfnegiaaGreatDoor
namespace Go.Fw
set_option maxRecDepth 100000
theorem zmx:(Rows.calibrateLeastUptoRow.inPlace==Tryz.prog.inPlace 13)=true:=by kernel_rfl
theorem zny:(Rows.calibrateLeastUptoRow.unfollowed==Tryz.prog.unfollowed 13)=true:=by kernel_rfl
theorem zle:(Rows.calibrateLeastUptoRow.recurses==Tryz.prog.recurses 13)=true:=by kernel_rfl
theorem zl2:(Rows.calibrateLeastUptoRow.named==Tryz.prog.varsNamed 13)=true:=by kernel_rfl
theorem zlI:false=Rows.calibrateLeastUptoRow.goesBy Tryz.prog:=by kernel_rfl
theorem j13_fn:Tryz.prog.funcNamed "culet/culetlaw52.CalibrateLeast" =some 13:=by kernel_rfl
theorem zoH:Rows.calibrateLeastUptoRow.wfByText (Rows.OpenSpec.upto Rows.calibrateLeastSpec)=true:=by kernel_rfl
end Go.Fw
