/- A part of the proof that the law returns true for every input: an executor for the model's code, and what functions of the program compute. -/
import Derived.Test.YtcafjpldfnegiaaGreatDoorCards
import Derived.KernelRfl
open Go Go.Proofs Go.Proofs.YtcafjpldfnegiaaGreatDoor
namespace Go.Fw
set_option maxRecDepth 100000
theorem j18_in:(Rows.planeCanonicalRow.inPlace==Tryz.prog.inPlace 18)=true:=by kernel_rfl
theorem j18_un:(Rows.planeCanonicalRow.unfollowed==Tryz.prog.unfollowed 18)=true:=by kernel_rfl
theorem j18_re:(Rows.planeCanonicalRow.recurses==Tryz.prog.recurses 18)=true:=by kernel_rfl
theorem j18_va:(Rows.planeCanonicalRow.named==Tryz.prog.varsNamed 18)=true:=by kernel_rfl
theorem j18_go:false=Rows.planeCanonicalRow.goesBy Tryz.prog:=by kernel_rfl
theorem j18_fn:Tryz.prog.funcNamed "culet/culetlaw05.PlaneCanonical" =some 18:=by kernel_rfl
theorem j18_wf:Rows.planeCanonicalRow.wfByText (OpenSpec.ofChange Rows.planeCanonicalSpec)=true:=by kernel_rfl
end Go.Fw
