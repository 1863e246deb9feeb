/- A part of the proof that the law returns true for every input: an executor for the model's code, and what functions of the program compute. -/
import Derived.Test.YtcafjpldfnegiaaGreatDoorCards
import Derived.KernelRfl
open Go Go.Proofs Go.Proofs.YtcafjpldfnegiaaGreatDoor
namespace Go.Fw
set_option maxRecDepth 100000
theorem fa_maps:mapsRowed Tryz.prog=true:=by kernel_rfl
theorem fa_heard:Tryz.prog.stopsHeard=true:=by kernel_rfl
theorem fa_enter:Tryz.prog.mayEnter=true:=by kernel_rfl
theorem fa_lifts:Rows.wheelOrdersRow.lifted=Tryz.prog.liftsFinal:=by kernel_rfl
theorem fa_make:Tryz.prog.make=some Rows.wheelOrdersRow.make:=by kernel_rfl
theorem fa_keys:Rows.wheelOrdersRow.plainKeys=Tryz.prog.plainKeys:=by kernel_rfl
theorem fa_stops:(Tryz.prog.stops==[])=true:=by kernel_rfl
theorem fa_knobs:(Tryz.prog.stopKnobs==[])=true:=by kernel_rfl
theorem fa_looks:false=Tryz.prog.looks []:=by kernel_rfl
theorem fa_main:Tryz.prog.mainIs=some (true,"cce157871fa259cc74ec2886a2e5c10b003dff8d70a0ef3b61b763e3bfa475ce".toList):=by kernel_rfl
end Go.Fw
