/- A part of the proof that the law returns true for every input: an executor for the model's code, and what functions of the program compute. -/
import Derived.Test.YtcafjpldfnegiaaGreatDoorCards
import Derived.KernelRfl
open Go IntKind
open Go Go.Proofs Go.Proofs.YtcafjpldfnegiaaGreatDoor
namespace Go.Fw
set_option maxRecDepth 100000
theorem zhq:mapsRowed Tryz.prog=true:=by kernel_rfl
theorem zf1:Tryz.prog.stopsHeard=true:=by kernel_rfl
theorem zeb:Tryz.prog.mayEnter=true:=by kernel_rfl
theorem zeP:Rows.wheelOrdersRow.lifted=Tryz.prog.liftsFinal:=by kernel_rfl
theorem zi4:Tryz.prog.make=some Rows.wheelOrdersRow.make:=by kernel_rfl
theorem zi2:Rows.wheelOrdersRow.plainKeys=Tryz.prog.plainKeys:=by kernel_rfl
theorem zeF:(Tryz.prog.stops==[])=true:=by kernel_rfl
theorem zfx:(Tryz.prog.stopKnobs==[])=true:=by kernel_rfl
theorem zfa:false=Tryz.prog.looks []:=by kernel_rfl
theorem zhW:Tryz.prog.mainIs=some (true,"cce157871fa259cc74ec2886a2e5c10b003dff8d70a0ef3b61b763e3bfa475ce".toList):=by kernel_rfl
end Go.Fw
