/- A part of the proof that the law returns true for every input: an executor for the model's code, and what functions of the program compute. -/
import Derived.Test.YtcafjpldfnegiaaGreatDoorCards
import Derived.KernelRfl
open Go Go.Proofs Go.Proofs.YtcafjpldfnegiaaGreatDoor
namespace Go.Fw
set_option maxRecDepth 100000
theorem zhr:mapsRowed Tryz.prog=true:=by kernel_rfl
theorem ze5:Tryz.prog.stopsHeard=true:=by kernel_rfl
theorem zfa:Tryz.prog.mayEnter=true:=by kernel_rfl
theorem ze4:Rows.wheelOrdersRow.lifted=Tryz.prog.liftsFinal:=by kernel_rfl
theorem zjk:Tryz.prog.make=some Rows.wheelOrdersRow.make:=by kernel_rfl
theorem zhp:Rows.wheelOrdersRow.plainKeys=Tryz.prog.plainKeys:=by kernel_rfl
theorem zf1:(Tryz.prog.stops==[])=true:=by kernel_rfl
theorem ze1:(Tryz.prog.stopKnobs==[])=true:=by kernel_rfl
theorem zeH:false=Tryz.prog.looks []:=by kernel_rfl
theorem zgN:Tryz.prog.mainIs=some (true,"cce157871fa259cc74ec2886a2e5c10b003dff8d70a0ef3b61b763e3bfa475ce".toList):=by kernel_rfl
end Go.Fw
