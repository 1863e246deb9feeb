/- A part of the proof that the law returns true for every input: an executor for the model's code, and what functions of the program compute. -/
import Derived.Test.YtcafjpldfnegiaaDoorCards
import Derived.KernelRfl
open Go IntKind
open Go Go.Proofs Go.Proofs.YtcafjpldfnegiaaDoor
namespace Go.Fw
set_option maxRecDepth 100000
theorem zh6:(Rows.calibrateOrderRow.inPlace==Tryd.prog.inPlace 3)=true:=by kernel_rfl
theorem zh8:(Rows.calibrateOrderRow.unfollowed==Tryd.prog.unfollowed 3)=true:=by kernel_rfl
theorem zgF:(Rows.calibrateOrderRow.recurses==Tryd.prog.recurses 3)=true:=by kernel_rfl
theorem zgK:(Rows.calibrateOrderRow.named==Tryd.prog.varsNamed 3)=true:=by kernel_rfl
theorem zgX:false=Rows.calibrateOrderRow.goesBy Tryd.prog:=by kernel_rfl
theorem j3_fn:Tryd.prog.funcNamed "culet/culetlaw52.CalibrateOrder" =some 3:=by kernel_rfl
theorem zgS:Rows.calibrateOrderRow.wfByText (OpenSpec.ofChange Rows.calibrateOrderSpec)=true:=by kernel_rfl
end Go.Fw
