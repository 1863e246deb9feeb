/-
  DERIVED. GIVEN WITH THE SEED: THE CARDS: each row of YtcafjpldfnegiaaDoorRows.lean that lists a variable, with what it lists TIED to the program's text (the seventh form; the later family's looks); each row that meets fmt, with fmt's text TOLD by the authors' own Lean function (tested against real Go, not proved from fmt's source: count such statements apart). THE CARD IS WHAT COUNTS. Prove the row's statement (the work); the ties are given (YtcafjpldfnegiaaDoorTie.lean); close each card by the builder's one call (the guide's Derived/Test/ToyasCard.lean, 'card_holds'). Laid BY PROGRAM, IN A SANDBOX (cutbox-door.mjs). By AI agents, Wed Nov 11 2026. No macro, syntax, notation, axiom, sorry.
-/
import Derived.Test.YtcafjpldfnegiaaDoorRows
import GoSem.ClaimSeven
namespace Go.Proofs.YtcafjpldfnegiaaDoor
namespace Rows

/-- THE TIED CARD OF 'culetlaw52.CalibrateOrder'. -/
def calibrateOrderCard : Claim7 := { stood := { row := calibrateOrderRow, standIns := [], harness := (true, "1a341f09c6aa327db0eb65e2b51b3a55b871a81b7868f8c9048942537d07ab5d"), looks := false }, kinds := [], alts := [], laidByText := true, laidKinds := [.data, .pinned], laidTests := true, laidLooks := .later }
def CalibrateOrderCardSaid : Prop := Claim7.holds Tryd.pinned (.plain (OpenSpec.ofChange calibrateOrderSpec)) calibrateOrderCard

/-- THE SECOND FORM's CARD OF 'culetlaw52.CalibrateOrder'. -/
def calibrateOrderUptoCard : Claim7 := { stood := { row := calibrateOrderUptoRow, standIns := [], harness := (true, "1a341f09c6aa327db0eb65e2b51b3a55b871a81b7868f8c9048942537d07ab5d"), looks := false }, kinds := [], alts := [], laidByText := true, laidKinds := [.data, .pinned], laidTests := true, laidLooks := .later }
def CalibrateOrderUptoCardSaid : Prop := Claim7.holds Tryd.pinned (.plain (OpenSpec.upto calibrateOrderSpec)) calibrateOrderUptoCard
end Rows
end Go.Proofs.YtcafjpldfnegiaaDoor
