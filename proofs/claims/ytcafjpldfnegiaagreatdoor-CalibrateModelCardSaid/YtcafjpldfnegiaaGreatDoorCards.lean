/-
  DERIVED. GIVEN WITH THE SEED: THE CARDS: each row of YtcafjpldfnegiaaGreatDoorRows.lean that lists a variable, with what it lists TIED to the program's text (the seventh form; the later family's looks); each row that meets fmt, with fmt's text TOLD by the authors' own Lean function (tested against real Go, not proved from fmt's source: count such statements apart). THE CARD IS WHAT COUNTS. Prove the row's statement (the work); the ties are given (YtcafjpldfnegiaaGreatDoorTie.lean); close each card by the builder's one call (the guide's Derived/Test/ToyasCard.lean, 'card_holds'). Laid BY PROGRAM, IN A SANDBOX (cutbox-door.mjs). By AI agents, Wed Nov 11 2026. No macro, syntax, notation, axiom, sorry.
-/
import Derived.Test.YtcafjpldfnegiaaGreatDoorRows
import GoSem.ClaimSeven
namespace Go.Proofs.YtcafjpldfnegiaaGreatDoor
namespace Rows

/-- THE TIED CARD OF 'culetlaw03.WheelOrders'. -/
def wheelOrdersCard : Claim7 := { stood := { row := wheelOrdersRow, standIns := [], harness := (true, "cce157871fa259cc74ec2886a2e5c10b003dff8d70a0ef3b61b763e3bfa475ce"), looks := false }, kinds := [], alts := [], laidByText := true, laidKinds := [.data, .pinned], laidTests := true, laidLooks := .later }
def WheelOrdersCardSaid : Prop := Claim7.holds Tryz.pinned (.plain (OpenSpec.ofChange wheelOrdersSpec)) wheelOrdersCard

/-- THE TIED CARD OF 'culetlaw03.WheelTrig'. -/
def wheelTrigCard : Claim7 := { stood := { row := wheelTrigRow, standIns := [], harness := (true, "cce157871fa259cc74ec2886a2e5c10b003dff8d70a0ef3b61b763e3bfa475ce"), looks := false }, kinds := [], alts := [], laidByText := true, laidKinds := [.data, .pinned], laidTests := true, laidLooks := .later }
def WheelTrigCardSaid : Prop := Claim7.holds Tryz.pinned (.plain (OpenSpec.ofChange wheelTrigSpec)) wheelTrigCard

/-- THE TIED CARD OF 'culetlaw03.WheelCircle'. -/
def wheelCircleCard : Claim7 := { stood := { row := wheelCircleRow, standIns := [], harness := (true, "cce157871fa259cc74ec2886a2e5c10b003dff8d70a0ef3b61b763e3bfa475ce"), looks := false }, kinds := [], alts := [], laidByText := true, laidKinds := [.data, .pinned], laidTests := true, laidLooks := .later }
def WheelCircleCardSaid : Prop := Claim7.holds Tryz.pinned (.plain (OpenSpec.ofChange wheelCircleSpec)) wheelCircleCard

/-- THE TIED CARD OF 'culetlaw03.WheelMotions'. -/
def wheelMotionsCard : Claim7 := { stood := { row := wheelMotionsRow, standIns := [], harness := (true, "cce157871fa259cc74ec2886a2e5c10b003dff8d70a0ef3b61b763e3bfa475ce"), looks := false }, kinds := [], alts := [], laidByText := true, laidKinds := [.data, .pinned], laidTests := true, laidLooks := .later }
def WheelMotionsCardSaid : Prop := Claim7.holds Tryz.pinned (.plain (OpenSpec.ofChange wheelMotionsSpec)) wheelMotionsCard

/-- THE TIED CARD OF 'culetlaw03.WheelVectors'. -/
def wheelVectorsCard : Claim7 := { stood := { row := wheelVectorsRow, standIns := [], harness := (true, "cce157871fa259cc74ec2886a2e5c10b003dff8d70a0ef3b61b763e3bfa475ce"), looks := false }, kinds := [], alts := [], laidByText := true, laidKinds := [.data, .pinned], laidTests := true, laidLooks := .later }
def WheelVectorsCardSaid : Prop := Claim7.holds Tryz.pinned (.plain (OpenSpec.ofChange wheelVectorsSpec)) wheelVectorsCard

/-- THE TIED CARD OF 'culetlaw03.WheelLengths'. -/
def wheelLengthsCard : Claim7 := { stood := { row := wheelLengthsRow, standIns := [], harness := (true, "cce157871fa259cc74ec2886a2e5c10b003dff8d70a0ef3b61b763e3bfa475ce"), looks := false }, kinds := [], alts := [], laidByText := true, laidKinds := [.data, .pinned], laidTests := true, laidLooks := .later }
def WheelLengthsCardSaid : Prop := Claim7.holds Tryz.pinned (.plain (OpenSpec.ofChange wheelLengthsSpec)) wheelLengthsCard

/-- THE TIED CARD OF 'culetlaw03.WheelIndex'. -/
def wheelIndexCard : Claim7 := { stood := { row := wheelIndexRow, standIns := [], harness := (true, "cce157871fa259cc74ec2886a2e5c10b003dff8d70a0ef3b61b763e3bfa475ce"), looks := false }, kinds := [], alts := [], laidByText := true, laidKinds := [.data, .pinned], laidTests := true, laidLooks := .later }
def WheelIndexCardSaid : Prop := Claim7.holds Tryz.pinned (.plain (OpenSpec.ofChange wheelIndexSpec)) wheelIndexCard

/-- THE TIED CARD OF 'culetlaw03.WheelGroup'. -/
def wheelGroupCard : Claim7 := { stood := { row := wheelGroupRow, standIns := [], harness := (true, "cce157871fa259cc74ec2886a2e5c10b003dff8d70a0ef3b61b763e3bfa475ce"), looks := false }, kinds := [], alts := [], laidByText := true, laidKinds := [.data, .pinned], laidTests := true, laidLooks := .later }
def WheelGroupCardSaid : Prop := Claim7.holds Tryz.pinned (.plain (OpenSpec.ofChange wheelGroupSpec)) wheelGroupCard

/-- THE TIED CARD OF 'culetlaw52.CalibrateNormal'. -/
def calibrateNormalCard : Claim7 := { stood := { row := calibrateNormalRow, standIns := [], harness := (true, "cce157871fa259cc74ec2886a2e5c10b003dff8d70a0ef3b61b763e3bfa475ce"), looks := false }, kinds := [], alts := [], laidByText := true, laidKinds := [.data, .pinned], laidTests := true, laidLooks := .later }
def CalibrateNormalCardSaid : Prop := Claim7.holds Tryz.pinned (.plain (OpenSpec.ofChange calibrateNormalSpec)) calibrateNormalCard

/-- THE TIED CARD OF 'culetlaw52.CalibrateTurned'. -/
def calibrateTurnedCard : Claim7 := { stood := { row := calibrateTurnedRow, standIns := [], harness := (true, "cce157871fa259cc74ec2886a2e5c10b003dff8d70a0ef3b61b763e3bfa475ce"), looks := false }, kinds := [], alts := [], laidByText := true, laidKinds := [.data, .pinned], laidTests := true, laidLooks := .later }
def CalibrateTurnedCardSaid : Prop := Claim7.holds Tryz.pinned (.plain (OpenSpec.ofChange calibrateTurnedSpec)) calibrateTurnedCard

/-- THE TIED CARD OF 'culetlaw52.CalibrateLeast'. -/
def calibrateLeastCard : Claim7 := { stood := { row := calibrateLeastRow, standIns := [], harness := (true, "cce157871fa259cc74ec2886a2e5c10b003dff8d70a0ef3b61b763e3bfa475ce"), looks := false }, kinds := [], alts := [], laidByText := true, laidKinds := [.data, .pinned], laidTests := true, laidLooks := .later }
def CalibrateLeastCardSaid : Prop := Claim7.holds Tryz.pinned (.plain (OpenSpec.ofChange calibrateLeastSpec)) calibrateLeastCard

/-- THE TIED CARD OF 'culetlaw52.CalibrateExact'. -/
def calibrateExactCard : Claim7 := { stood := { row := calibrateExactRow, standIns := [], harness := (true, "cce157871fa259cc74ec2886a2e5c10b003dff8d70a0ef3b61b763e3bfa475ce"), looks := false }, kinds := [], alts := [], laidByText := true, laidKinds := [.data, .pinned], laidTests := true, laidLooks := .later }
def CalibrateExactCardSaid : Prop := Claim7.holds Tryz.pinned (.plain (OpenSpec.ofChange calibrateExactSpec)) calibrateExactCard

/-- THE TIED CARD OF 'culetlaw05.PlaneOf'. -/
def planeOfCard : Claim7 := { stood := { row := planeOfRow, standIns := [], harness := (true, "cce157871fa259cc74ec2886a2e5c10b003dff8d70a0ef3b61b763e3bfa475ce"), looks := false }, kinds := [], alts := [], laidByText := true, laidKinds := [.data, .pinned], laidTests := true, laidLooks := .later }
def PlaneOfCardSaid : Prop := Claim7.holds Tryz.pinned (.plain (OpenSpec.ofChange planeOfSpec)) planeOfCard

/-- THE TIED CARD OF 'culetlaw52.CalibrateFit'. -/
def calibrateFitCard : Claim7 := { stood := { row := calibrateFitRow, standIns := [], harness := (true, "cce157871fa259cc74ec2886a2e5c10b003dff8d70a0ef3b61b763e3bfa475ce"), looks := false }, kinds := [], alts := [], laidByText := true, laidKinds := [.data, .pinned], laidTests := true, laidLooks := .later }
def CalibrateFitCardSaid : Prop := Claim7.holds Tryz.pinned (.plain (OpenSpec.ofChange calibrateFitSpec)) calibrateFitCard

/-- THE TIED CARD OF 'culetlaw05.PlaneSettings'. -/
def planeSettingsCard : Claim7 := { stood := { row := planeSettingsRow, standIns := [], harness := (true, "cce157871fa259cc74ec2886a2e5c10b003dff8d70a0ef3b61b763e3bfa475ce"), looks := false }, kinds := [], alts := [], laidByText := true, laidKinds := [.data, .pinned], laidTests := true, laidLooks := .later }
def PlaneSettingsCardSaid : Prop := Claim7.holds Tryz.pinned (.plain (OpenSpec.ofChange planeSettingsSpec)) planeSettingsCard

/-- THE TIED CARD OF 'culetlaw05.PlaneCanonical'. -/
def planeCanonicalCard : Claim7 := { stood := { row := planeCanonicalRow, standIns := [], harness := (true, "cce157871fa259cc74ec2886a2e5c10b003dff8d70a0ef3b61b763e3bfa475ce"), looks := false }, kinds := [], alts := [], laidByText := true, laidKinds := [.data, .pinned], laidTests := true, laidLooks := .later }
def PlaneCanonicalCardSaid : Prop := Claim7.holds Tryz.pinned (.plain (OpenSpec.ofChange planeCanonicalSpec)) planeCanonicalCard

/-- THE TIED CARD OF 'culetlaw05.PlaneThrough'. -/
def planeThroughCard : Claim7 := { stood := { row := planeThroughRow, standIns := [], harness := (true, "cce157871fa259cc74ec2886a2e5c10b003dff8d70a0ef3b61b763e3bfa475ce"), looks := false }, kinds := [], alts := [], laidByText := true, laidKinds := [.data, .pinned], laidTests := true, laidLooks := .later }
def PlaneThroughCardSaid : Prop := Claim7.holds Tryz.pinned (.plain (OpenSpec.ofChange planeThroughSpec)) planeThroughCard

/-- THE TIED CARD OF 'culetlaw05.PlaneMeet'. -/
def planeMeetCard : Claim7 := { stood := { row := planeMeetRow, standIns := [], harness := (true, "cce157871fa259cc74ec2886a2e5c10b003dff8d70a0ef3b61b763e3bfa475ce"), looks := false }, kinds := [], alts := [], laidByText := true, laidKinds := [.data, .pinned], laidTests := true, laidLooks := .later }
def PlaneMeetCardSaid : Prop := Claim7.holds Tryz.pinned (.plain (OpenSpec.ofChange planeMeetSpec)) planeMeetCard

/-- THE TIED CARD OF 'culetlaw05.PlanePoints'. -/
def planePointsCard : Claim7 := { stood := { row := planePointsRow, standIns := [], harness := (true, "cce157871fa259cc74ec2886a2e5c10b003dff8d70a0ef3b61b763e3bfa475ce"), looks := false }, kinds := [], alts := [], laidByText := true, laidKinds := [.data, .pinned], laidTests := true, laidLooks := .later }
def PlanePointsCardSaid : Prop := Claim7.holds Tryz.pinned (.plain (OpenSpec.ofChange planePointsSpec)) planePointsCard

/-- THE TIED CARD OF 'culetlaw05.PlaneMoved'. -/
def planeMovedCard : Claim7 := { stood := { row := planeMovedRow, standIns := [], harness := (true, "cce157871fa259cc74ec2886a2e5c10b003dff8d70a0ef3b61b763e3bfa475ce"), looks := false }, kinds := [], alts := [], laidByText := true, laidKinds := [.data, .pinned], laidTests := true, laidLooks := .later }
def PlaneMovedCardSaid : Prop := Claim7.holds Tryz.pinned (.plain (OpenSpec.ofChange planeMovedSpec)) planeMovedCard

/-- THE TIED CARD OF 'culetlaw05.PlaneChanges'. -/
def planeChangesCard : Claim7 := { stood := { row := planeChangesRow, standIns := [], harness := (true, "cce157871fa259cc74ec2886a2e5c10b003dff8d70a0ef3b61b763e3bfa475ce"), looks := false }, kinds := [], alts := [], laidByText := true, laidKinds := [.data, .pinned], laidTests := true, laidLooks := .later }
def PlaneChangesCardSaid : Prop := Claim7.holds Tryz.pinned (.plain (OpenSpec.ofChange planeChangesSpec)) planeChangesCard

/-- THE TIED CARD OF 'culetlaw52.CalibrateModel'. -/
def calibrateModelCard : Claim7 := { stood := { row := calibrateModelRow, standIns := [], harness := (true, "cce157871fa259cc74ec2886a2e5c10b003dff8d70a0ef3b61b763e3bfa475ce"), looks := false }, kinds := [], alts := [], laidByText := true, laidKinds := [.data, .pinned], laidTests := true, laidLooks := .later }
def CalibrateModelCardSaid : Prop := Claim7.holds Tryz.pinned (.plain (OpenSpec.ofChange calibrateModelSpec)) calibrateModelCard

/-- THE SECOND FORM's CARD OF 'culetlaw03.WheelOrders'. -/
def wheelOrdersUptoCard : Claim7 := { stood := { row := wheelOrdersUptoRow, standIns := [], harness := (true, "cce157871fa259cc74ec2886a2e5c10b003dff8d70a0ef3b61b763e3bfa475ce"), looks := false }, kinds := [], alts := [], laidByText := true, laidKinds := [.data, .pinned], laidTests := true, laidLooks := .later }
def WheelOrdersUptoCardSaid : Prop := Claim7.holds Tryz.pinned (.plain (OpenSpec.upto wheelOrdersSpec)) wheelOrdersUptoCard

/-- THE SECOND FORM's CARD OF 'culetlaw03.WheelTrig'. -/
def wheelTrigUptoCard : Claim7 := { stood := { row := wheelTrigUptoRow, standIns := [], harness := (true, "cce157871fa259cc74ec2886a2e5c10b003dff8d70a0ef3b61b763e3bfa475ce"), looks := false }, kinds := [], alts := [], laidByText := true, laidKinds := [.data, .pinned], laidTests := true, laidLooks := .later }
def WheelTrigUptoCardSaid : Prop := Claim7.holds Tryz.pinned (.plain (OpenSpec.upto wheelTrigSpec)) wheelTrigUptoCard

/-- THE SECOND FORM's CARD OF 'culetlaw03.WheelCircle'. -/
def wheelCircleUptoCard : Claim7 := { stood := { row := wheelCircleUptoRow, standIns := [], harness := (true, "cce157871fa259cc74ec2886a2e5c10b003dff8d70a0ef3b61b763e3bfa475ce"), looks := false }, kinds := [], alts := [], laidByText := true, laidKinds := [.data, .pinned], laidTests := true, laidLooks := .later }
def WheelCircleUptoCardSaid : Prop := Claim7.holds Tryz.pinned (.plain (OpenSpec.upto wheelCircleSpec)) wheelCircleUptoCard

/-- THE SECOND FORM's CARD OF 'culetlaw03.WheelMotions'. -/
def wheelMotionsUptoCard : Claim7 := { stood := { row := wheelMotionsUptoRow, standIns := [], harness := (true, "cce157871fa259cc74ec2886a2e5c10b003dff8d70a0ef3b61b763e3bfa475ce"), looks := false }, kinds := [], alts := [], laidByText := true, laidKinds := [.data, .pinned], laidTests := true, laidLooks := .later }
def WheelMotionsUptoCardSaid : Prop := Claim7.holds Tryz.pinned (.plain (OpenSpec.upto wheelMotionsSpec)) wheelMotionsUptoCard

/-- THE SECOND FORM's CARD OF 'culetlaw03.WheelVectors'. -/
def wheelVectorsUptoCard : Claim7 := { stood := { row := wheelVectorsUptoRow, standIns := [], harness := (true, "cce157871fa259cc74ec2886a2e5c10b003dff8d70a0ef3b61b763e3bfa475ce"), looks := false }, kinds := [], alts := [], laidByText := true, laidKinds := [.data, .pinned], laidTests := true, laidLooks := .later }
def WheelVectorsUptoCardSaid : Prop := Claim7.holds Tryz.pinned (.plain (OpenSpec.upto wheelVectorsSpec)) wheelVectorsUptoCard

/-- THE SECOND FORM's CARD OF 'culetlaw03.WheelLengths'. -/
def wheelLengthsUptoCard : Claim7 := { stood := { row := wheelLengthsUptoRow, standIns := [], harness := (true, "cce157871fa259cc74ec2886a2e5c10b003dff8d70a0ef3b61b763e3bfa475ce"), looks := false }, kinds := [], alts := [], laidByText := true, laidKinds := [.data, .pinned], laidTests := true, laidLooks := .later }
def WheelLengthsUptoCardSaid : Prop := Claim7.holds Tryz.pinned (.plain (OpenSpec.upto wheelLengthsSpec)) wheelLengthsUptoCard

/-- THE SECOND FORM's CARD OF 'culetlaw03.WheelIndex'. -/
def wheelIndexUptoCard : Claim7 := { stood := { row := wheelIndexUptoRow, standIns := [], harness := (true, "cce157871fa259cc74ec2886a2e5c10b003dff8d70a0ef3b61b763e3bfa475ce"), looks := false }, kinds := [], alts := [], laidByText := true, laidKinds := [.data, .pinned], laidTests := true, laidLooks := .later }
def WheelIndexUptoCardSaid : Prop := Claim7.holds Tryz.pinned (.plain (OpenSpec.upto wheelIndexSpec)) wheelIndexUptoCard

/-- THE SECOND FORM's CARD OF 'culetlaw03.WheelGroup'. -/
def wheelGroupUptoCard : Claim7 := { stood := { row := wheelGroupUptoRow, standIns := [], harness := (true, "cce157871fa259cc74ec2886a2e5c10b003dff8d70a0ef3b61b763e3bfa475ce"), looks := false }, kinds := [], alts := [], laidByText := true, laidKinds := [.data, .pinned], laidTests := true, laidLooks := .later }
def WheelGroupUptoCardSaid : Prop := Claim7.holds Tryz.pinned (.plain (OpenSpec.upto wheelGroupSpec)) wheelGroupUptoCard

/-- THE SECOND FORM's CARD OF 'culetlaw52.CalibrateNormal'. -/
def calibrateNormalUptoCard : Claim7 := { stood := { row := calibrateNormalUptoRow, standIns := [], harness := (true, "cce157871fa259cc74ec2886a2e5c10b003dff8d70a0ef3b61b763e3bfa475ce"), looks := false }, kinds := [], alts := [], laidByText := true, laidKinds := [.data, .pinned], laidTests := true, laidLooks := .later }
def CalibrateNormalUptoCardSaid : Prop := Claim7.holds Tryz.pinned (.plain (OpenSpec.upto calibrateNormalSpec)) calibrateNormalUptoCard

/-- THE SECOND FORM's CARD OF 'culetlaw52.CalibrateTurned'. -/
def calibrateTurnedUptoCard : Claim7 := { stood := { row := calibrateTurnedUptoRow, standIns := [], harness := (true, "cce157871fa259cc74ec2886a2e5c10b003dff8d70a0ef3b61b763e3bfa475ce"), looks := false }, kinds := [], alts := [], laidByText := true, laidKinds := [.data, .pinned], laidTests := true, laidLooks := .later }
def CalibrateTurnedUptoCardSaid : Prop := Claim7.holds Tryz.pinned (.plain (OpenSpec.upto calibrateTurnedSpec)) calibrateTurnedUptoCard

/-- THE SECOND FORM's CARD OF 'culetlaw52.CalibrateLeast'. -/
def calibrateLeastUptoCard : Claim7 := { stood := { row := calibrateLeastUptoRow, standIns := [], harness := (true, "cce157871fa259cc74ec2886a2e5c10b003dff8d70a0ef3b61b763e3bfa475ce"), looks := false }, kinds := [], alts := [], laidByText := true, laidKinds := [.data, .pinned], laidTests := true, laidLooks := .later }
def CalibrateLeastUptoCardSaid : Prop := Claim7.holds Tryz.pinned (.plain (OpenSpec.upto calibrateLeastSpec)) calibrateLeastUptoCard

/-- THE SECOND FORM's CARD OF 'culetlaw52.CalibrateExact'. -/
def calibrateExactUptoCard : Claim7 := { stood := { row := calibrateExactUptoRow, standIns := [], harness := (true, "cce157871fa259cc74ec2886a2e5c10b003dff8d70a0ef3b61b763e3bfa475ce"), looks := false }, kinds := [], alts := [], laidByText := true, laidKinds := [.data, .pinned], laidTests := true, laidLooks := .later }
def CalibrateExactUptoCardSaid : Prop := Claim7.holds Tryz.pinned (.plain (OpenSpec.upto calibrateExactSpec)) calibrateExactUptoCard

/-- THE SECOND FORM's CARD OF 'culetlaw05.PlaneOf'. -/
def planeOfUptoCard : Claim7 := { stood := { row := planeOfUptoRow, standIns := [], harness := (true, "cce157871fa259cc74ec2886a2e5c10b003dff8d70a0ef3b61b763e3bfa475ce"), looks := false }, kinds := [], alts := [], laidByText := true, laidKinds := [.data, .pinned], laidTests := true, laidLooks := .later }
def PlaneOfUptoCardSaid : Prop := Claim7.holds Tryz.pinned (.plain (OpenSpec.upto planeOfSpec)) planeOfUptoCard

/-- THE SECOND FORM's CARD OF 'culetlaw52.CalibrateFit'. -/
def calibrateFitUptoCard : Claim7 := { stood := { row := calibrateFitUptoRow, standIns := [], harness := (true, "cce157871fa259cc74ec2886a2e5c10b003dff8d70a0ef3b61b763e3bfa475ce"), looks := false }, kinds := [], alts := [], laidByText := true, laidKinds := [.data, .pinned], laidTests := true, laidLooks := .later }
def CalibrateFitUptoCardSaid : Prop := Claim7.holds Tryz.pinned (.plain (OpenSpec.upto calibrateFitSpec)) calibrateFitUptoCard

/-- THE SECOND FORM's CARD OF 'culetlaw05.PlaneSettings'. -/
def planeSettingsUptoCard : Claim7 := { stood := { row := planeSettingsUptoRow, standIns := [], harness := (true, "cce157871fa259cc74ec2886a2e5c10b003dff8d70a0ef3b61b763e3bfa475ce"), looks := false }, kinds := [], alts := [], laidByText := true, laidKinds := [.data, .pinned], laidTests := true, laidLooks := .later }
def PlaneSettingsUptoCardSaid : Prop := Claim7.holds Tryz.pinned (.plain (OpenSpec.upto planeSettingsSpec)) planeSettingsUptoCard

/-- THE SECOND FORM's CARD OF 'culetlaw05.PlaneCanonical'. -/
def planeCanonicalUptoCard : Claim7 := { stood := { row := planeCanonicalUptoRow, standIns := [], harness := (true, "cce157871fa259cc74ec2886a2e5c10b003dff8d70a0ef3b61b763e3bfa475ce"), looks := false }, kinds := [], alts := [], laidByText := true, laidKinds := [.data, .pinned], laidTests := true, laidLooks := .later }
def PlaneCanonicalUptoCardSaid : Prop := Claim7.holds Tryz.pinned (.plain (OpenSpec.upto planeCanonicalSpec)) planeCanonicalUptoCard

/-- THE SECOND FORM's CARD OF 'culetlaw05.PlaneThrough'. -/
def planeThroughUptoCard : Claim7 := { stood := { row := planeThroughUptoRow, standIns := [], harness := (true, "cce157871fa259cc74ec2886a2e5c10b003dff8d70a0ef3b61b763e3bfa475ce"), looks := false }, kinds := [], alts := [], laidByText := true, laidKinds := [.data, .pinned], laidTests := true, laidLooks := .later }
def PlaneThroughUptoCardSaid : Prop := Claim7.holds Tryz.pinned (.plain (OpenSpec.upto planeThroughSpec)) planeThroughUptoCard

/-- THE SECOND FORM's CARD OF 'culetlaw05.PlaneMeet'. -/
def planeMeetUptoCard : Claim7 := { stood := { row := planeMeetUptoRow, standIns := [], harness := (true, "cce157871fa259cc74ec2886a2e5c10b003dff8d70a0ef3b61b763e3bfa475ce"), looks := false }, kinds := [], alts := [], laidByText := true, laidKinds := [.data, .pinned], laidTests := true, laidLooks := .later }
def PlaneMeetUptoCardSaid : Prop := Claim7.holds Tryz.pinned (.plain (OpenSpec.upto planeMeetSpec)) planeMeetUptoCard

/-- THE SECOND FORM's CARD OF 'culetlaw05.PlanePoints'. -/
def planePointsUptoCard : Claim7 := { stood := { row := planePointsUptoRow, standIns := [], harness := (true, "cce157871fa259cc74ec2886a2e5c10b003dff8d70a0ef3b61b763e3bfa475ce"), looks := false }, kinds := [], alts := [], laidByText := true, laidKinds := [.data, .pinned], laidTests := true, laidLooks := .later }
def PlanePointsUptoCardSaid : Prop := Claim7.holds Tryz.pinned (.plain (OpenSpec.upto planePointsSpec)) planePointsUptoCard

/-- THE SECOND FORM's CARD OF 'culetlaw05.PlaneMoved'. -/
def planeMovedUptoCard : Claim7 := { stood := { row := planeMovedUptoRow, standIns := [], harness := (true, "cce157871fa259cc74ec2886a2e5c10b003dff8d70a0ef3b61b763e3bfa475ce"), looks := false }, kinds := [], alts := [], laidByText := true, laidKinds := [.data, .pinned], laidTests := true, laidLooks := .later }
def PlaneMovedUptoCardSaid : Prop := Claim7.holds Tryz.pinned (.plain (OpenSpec.upto planeMovedSpec)) planeMovedUptoCard

/-- THE SECOND FORM's CARD OF 'culetlaw05.PlaneChanges'. -/
def planeChangesUptoCard : Claim7 := { stood := { row := planeChangesUptoRow, standIns := [], harness := (true, "cce157871fa259cc74ec2886a2e5c10b003dff8d70a0ef3b61b763e3bfa475ce"), looks := false }, kinds := [], alts := [], laidByText := true, laidKinds := [.data, .pinned], laidTests := true, laidLooks := .later }
def PlaneChangesUptoCardSaid : Prop := Claim7.holds Tryz.pinned (.plain (OpenSpec.upto planeChangesSpec)) planeChangesUptoCard

/-- THE SECOND FORM's CARD OF 'culetlaw52.CalibrateModel'. -/
def calibrateModelUptoCard : Claim7 := { stood := { row := calibrateModelUptoRow, standIns := [], harness := (true, "cce157871fa259cc74ec2886a2e5c10b003dff8d70a0ef3b61b763e3bfa475ce"), looks := false }, kinds := [], alts := [], laidByText := true, laidKinds := [.data, .pinned], laidTests := true, laidLooks := .later }
def CalibrateModelUptoCardSaid : Prop := Claim7.holds Tryz.pinned (.plain (OpenSpec.upto calibrateModelSpec)) calibrateModelUptoCard
end Rows
end Go.Proofs.YtcafjpldfnegiaaGreatDoor
