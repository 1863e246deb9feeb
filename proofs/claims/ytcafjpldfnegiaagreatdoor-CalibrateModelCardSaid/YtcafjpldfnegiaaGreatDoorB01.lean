/- A part of the proof that the law returns true for every input: an executor for the model's code, and what functions of the program compute. -/
import Derived.Test.YtcafjpldfnegiaaGreatDoorCards
import Derived.KernelRfl
open Go IntKind
open Go Go.Proofs Go.Proofs.YtcafjpldfnegiaaGreatDoor
namespace Go.Fw
set_option maxRecDepth 100000
theorem zm4:mapsRowed Tryz.prog=true:=by kernel_rfl
theorem zg5:Tryz.prog.stopsHeard=true:=by kernel_rfl
theorem zhr:Tryz.prog.mayEnter=true:=by kernel_rfl
theorem zhh:Rows.wheelOrdersRow.lifted=Tryz.prog.liftsFinal:=by kernel_rfl
theorem zll:Tryz.prog.make=some Rows.wheelOrdersRow.make:=by kernel_rfl
theorem zln:Rows.wheelOrdersRow.plainKeys=Tryz.prog.plainKeys:=by kernel_rfl
theorem zhG:(Tryz.prog.stops==[])=true:=by kernel_rfl
theorem zgG:(Tryz.prog.stopKnobs==[])=true:=by kernel_rfl
theorem zhL:false=Tryz.prog.looks []:=by kernel_rfl
theorem zmy:Tryz.prog.mainIs=some (true,"cce157871fa259cc74ec2886a2e5c10b003dff8d70a0ef3b61b763e3bfa475ce".toList):=by kernel_rfl
end Go.Fw
