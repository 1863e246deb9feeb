/- A part of the proof that the law returns true for every input: an executor for the model's code, and what functions of the program compute. -/
import Derived.Test.YtcafjpldfnegiaaDoorCards
import Derived.KernelRfl
open Go IntKind
open Go Go.Proofs Go.Proofs.YtcafjpldfnegiaaDoor
namespace Go.Fw
set_option maxRecDepth 100000
theorem zdK:mapsRowed Tryd.prog=true:=by kernel_rfl
theorem zay:Tryd.prog.stopsHeard=true:=by kernel_rfl
theorem zaf:Tryd.prog.mayEnter=true:=by kernel_rfl
theorem zad:Rows.calibrateOrderRow.lifted=Tryd.prog.liftsFinal:=by kernel_rfl
theorem ze5:Tryd.prog.make=some Rows.calibrateOrderRow.make:=by kernel_rfl
theorem zdI:Rows.calibrateOrderRow.plainKeys=Tryd.prog.plainKeys:=by kernel_rfl
theorem zas:(Tryd.prog.stops==[])=true:=by kernel_rfl
theorem zaR:(Tryd.prog.stopKnobs==[])=true:=by kernel_rfl
theorem zax:false=Tryd.prog.looks []:=by kernel_rfl
theorem zcX:Tryd.prog.mainIs=some (true,"1a341f09c6aa327db0eb65e2b51b3a55b871a81b7868f8c9048942537d07ab5d".toList):=by kernel_rfl
end Go.Fw
