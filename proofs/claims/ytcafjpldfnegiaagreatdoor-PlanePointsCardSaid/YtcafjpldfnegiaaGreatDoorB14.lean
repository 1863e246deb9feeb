/- A part of the proof that the law returns true for every input: an executor for the model's code, and what functions of the program compute. -/
import Derived.Test.YtcafjpldfnegiaaGreatDoorCards
import Derived.KernelRfl
open Go Go.Proofs Go.Proofs.YtcafjpldfnegiaaGreatDoor
namespace Go.Fw
set_option maxRecDepth 100000
theorem j21_in:(Rows.planePointsRow.inPlace==Tryz.prog.inPlace 21)=true:=by kernel_rfl
theorem j21_un:(Rows.planePointsRow.unfollowed==Tryz.prog.unfollowed 21)=true:=by kernel_rfl
theorem j21_re:(Rows.planePointsRow.recurses==Tryz.prog.recurses 21)=true:=by kernel_rfl
theorem j21_va:(Rows.planePointsRow.named==Tryz.prog.varsNamed 21)=true:=by kernel_rfl
theorem j21_go:false=Rows.planePointsRow.goesBy Tryz.prog:=by kernel_rfl
theorem j21_fn:Tryz.prog.funcNamed "culet/culetlaw05.PlanePoints" =some 21:=by kernel_rfl
theorem j21_wf:Rows.planePointsRow.wfByText (OpenSpec.ofChange Rows.planePointsSpec)=true:=by kernel_rfl
end Go.Fw
