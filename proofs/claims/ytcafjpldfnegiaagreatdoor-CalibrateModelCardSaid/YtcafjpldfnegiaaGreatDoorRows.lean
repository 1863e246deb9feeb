/-
  NARROWER THAN 'FOR EVERY INPUT', by the rows' own cells (each row's printed sentence says how): WheelOrders: laid · WheelTrig: laid · WheelCircle: laid · WheelMotions: laid · WheelVectors: laid · WheelLengths: laid · WheelIndex: laid · WheelGroup: laid · CalibrateNormal: laid · CalibrateTurned: laid · CalibrateLeast: laid · CalibrateExact: laid · PlaneOf: laid · CalibrateFit: laid · PlaneSettings: laid · PlaneCanonical: laid · PlaneThrough: laid · PlaneMeet: laid · PlanePoints: laid · PlaneMoved: laid · PlaneChanges: laid · CalibrateModel: laid.
  DERIVED. THE GIVEN ROWS OF THIS SEAT. 22 by the template 'for every input the law returns true; each argument reads behind the call as it read before'; 0 by the template 'total and deterministic' (their statements: YtcafjpldfnegiaaGreatDoorTotals.lean).
  GIVEN WITH THE SEED: the statements are not yours to turn. If you find one false, say at which input.
  Laid BY PROGRAM, IN A SANDBOX (cutbox-rows.mjs): the forced cells as the released guide's own fill.sh prints them over the translation 2925c19c20d3ba2b… (all of the seat's roots in one cut). By AI agents, Wed Nov 11 2026. No macro, syntax, notation, axiom, sorry.
-/
import Derived.Test.YtcafjpldfnegiaaGreatDoorChecked
import GoSem.PinnedTables
import GoSem.Claim
import GoSem.ClaimJoined
import GoSem.ClaimMapViews
import Derived.JoinedTies
import Derived.KernelRfl
namespace Go.Proofs.YtcafjpldfnegiaaGreatDoor
/- THE CELL 'sum', in the pinned program and in every row, IS THE sha256 OF THE DUMP (.gsa) THAT YtcafjpldfnegiaaGreatDoorProg.lean LOADS. Nothing in Lean hashes anything: it is a label: what it is worth is what the hold of that sum in a sandbox is worth. -/
noncomputable def Tryz.pinned : Pinned := { name := "ytcafjpldfnegiaagreatdoor", sum := "2925c19c20d3ba2b81ff19c38deeb9a9d32f14c8db1025ca28f569e6c4a9ad16", checked := Tryz.checked }
namespace Rows
def none {H : Type} : Left H := { results := [], args := [] }

/- WHAT THE LISTED PACKAGE-LEVEL VARIABLES READ AS WHEN THE CALL BEGINS. Each datum BY PROGRAM (the guide's laid-datum.mjs) off the statement by which the dump's own 'gosem.cut.vars' lays the variable. In a bare row this is a premise. The card (YtcafjpldfnegiaaGreatDoorCards.lean) ties it to the program's text. -/
def laid_unicode_utf8_acceptRanges {H : Type} : DataW H := .agg [.agg [.lit (.int .u8 128), .lit (.int .u8 191)], .agg [.lit (.int .u8 160), .lit (.int .u8 191)], .agg [.lit (.int .u8 128), .lit (.int .u8 159)], .agg [.lit (.int .u8 144), .lit (.int .u8 191)], .agg [.lit (.int .u8 128), .lit (.int .u8 143)], .agg [.lit (.int .u8 0), .lit (.int .u8 0)], .agg [.lit (.int .u8 0), .lit (.int .u8 0)], .agg [.lit (.int .u8 0), .lit (.int .u8 0)], .agg [.lit (.int .u8 0), .lit (.int .u8 0)], .agg [.lit (.int .u8 0), .lit (.int .u8 0)], .agg [.lit (.int .u8 0), .lit (.int .u8 0)], .agg [.lit (.int .u8 0), .lit (.int .u8 0)], .agg [.lit (.int .u8 0), .lit (.int .u8 0)], .agg [.lit (.int .u8 0), .lit (.int .u8 0)], .agg [.lit (.int .u8 0), .lit (.int .u8 0)], .agg [.lit (.int .u8 0), .lit (.int .u8 0)]]
/-- One of Go's own tables, pinned by name: the form's constant. -/
def laid_unicode_utf8_first : DataW Unit := Go.Pinned.utf8First

/-- 'culetlaw03.WheelOrders': WHATEVER THE INPUT: true; the input reads as it did. -/
def wheelOrdersSpec : ChangeSpec := { name := "wheelOrders", fn := fun _ => fun
  | [d1, d2, d3] => { results := [.lit (.bool true)], args := [d1, d2, d3] }
  | _ => none }
def wheelOrdersRow : OpenClaim := { program := "ytcafjpldfnegiaagreatdoor", sum := "2925c19c20d3ba2b81ff19c38deeb9a9d32f14c8db1025ca28f569e6c4a9ad16", func := "culet/culetlaw03.WheelOrders", spec := "wheelOrders", inPlace := ["internal/bytealg.IndexByteString", "internal/bytealg.IndexString"], unfollowed := true, recurses := true, named := ["unicode/utf8.first", "unicode/utf8.acceptRanges", "math/bits.overflowError", "internal/bytealg.MaxLen"], apart := false, laid := [("unicode/utf8.acceptRanges", laid_unicode_utf8_acceptRanges), ("unicode/utf8.first", laid_unicode_utf8_first)] }
def WheelOrdersSaid : Prop := wheelOrdersRow.holds Tryz.pinned (OpenSpec.ofChange wheelOrdersSpec)

/-- ITS FALSE NEIGHBOUR: 'it returns false'. Refute it at one input. -/
def wheelOrdersWrong : ChangeSpec := { name := "wheelOrders", fn := fun _ => fun
  | [d1, d2, d3] => { results := [.lit (.bool false)], args := [d1, d2, d3] }
  | _ => none }
def WheelOrdersWrongFalsely : Prop := wheelOrdersRow.holds Tryz.pinned (OpenSpec.ofChange wheelOrdersWrong)

/-- 'culetlaw03.WheelTrig': WHATEVER THE INPUT: true; the input reads as it did. -/
def wheelTrigSpec : ChangeSpec := { name := "wheelTrig", fn := fun _ => fun
  | [d] => { results := [.lit (.bool true)], args := [d] }
  | _ => none }
def wheelTrigRow : OpenClaim := { program := "ytcafjpldfnegiaagreatdoor", sum := "2925c19c20d3ba2b81ff19c38deeb9a9d32f14c8db1025ca28f569e6c4a9ad16", func := "culet/culetlaw03.WheelTrig", spec := "wheelTrig", inPlace := ["internal/bytealg.IndexByteString", "internal/bytealg.IndexString"], unfollowed := true, recurses := true, named := ["unicode/utf8.first", "unicode/utf8.acceptRanges", "math/bits.overflowError", "internal/bytealg.MaxLen"], apart := false, laid := [("unicode/utf8.acceptRanges", laid_unicode_utf8_acceptRanges), ("unicode/utf8.first", laid_unicode_utf8_first)] }
def WheelTrigSaid : Prop := wheelTrigRow.holds Tryz.pinned (OpenSpec.ofChange wheelTrigSpec)

/-- ITS FALSE NEIGHBOUR: 'it returns false'. Refute it at one input. -/
def wheelTrigWrong : ChangeSpec := { name := "wheelTrig", fn := fun _ => fun
  | [d] => { results := [.lit (.bool false)], args := [d] }
  | _ => none }
def WheelTrigWrongFalsely : Prop := wheelTrigRow.holds Tryz.pinned (OpenSpec.ofChange wheelTrigWrong)

/-- 'culetlaw03.WheelCircle': WHATEVER THE INPUT: true; the input reads as it did. -/
def wheelCircleSpec : ChangeSpec := { name := "wheelCircle", fn := fun _ => fun
  | [d1, d2] => { results := [.lit (.bool true)], args := [d1, d2] }
  | _ => none }
def wheelCircleRow : OpenClaim := { program := "ytcafjpldfnegiaagreatdoor", sum := "2925c19c20d3ba2b81ff19c38deeb9a9d32f14c8db1025ca28f569e6c4a9ad16", func := "culet/culetlaw03.WheelCircle", spec := "wheelCircle", inPlace := ["internal/bytealg.IndexByteString", "internal/bytealg.IndexString"], unfollowed := true, recurses := true, named := ["unicode/utf8.first", "unicode/utf8.acceptRanges", "math/bits.overflowError", "internal/bytealg.MaxLen"], apart := false, laid := [("unicode/utf8.acceptRanges", laid_unicode_utf8_acceptRanges), ("unicode/utf8.first", laid_unicode_utf8_first)] }
def WheelCircleSaid : Prop := wheelCircleRow.holds Tryz.pinned (OpenSpec.ofChange wheelCircleSpec)

/-- ITS FALSE NEIGHBOUR: 'it returns false'. Refute it at one input. -/
def wheelCircleWrong : ChangeSpec := { name := "wheelCircle", fn := fun _ => fun
  | [d1, d2] => { results := [.lit (.bool false)], args := [d1, d2] }
  | _ => none }
def WheelCircleWrongFalsely : Prop := wheelCircleRow.holds Tryz.pinned (OpenSpec.ofChange wheelCircleWrong)

/-- 'culetlaw03.WheelMotions': WHATEVER THE INPUT: true; the input reads as it did. -/
def wheelMotionsSpec : ChangeSpec := { name := "wheelMotions", fn := fun _ => fun
  | [d1, d2, d3] => { results := [.lit (.bool true)], args := [d1, d2, d3] }
  | _ => none }
def wheelMotionsRow : OpenClaim := { program := "ytcafjpldfnegiaagreatdoor", sum := "2925c19c20d3ba2b81ff19c38deeb9a9d32f14c8db1025ca28f569e6c4a9ad16", func := "culet/culetlaw03.WheelMotions", spec := "wheelMotions", inPlace := ["internal/bytealg.IndexByteString", "internal/bytealg.IndexString"], unfollowed := true, recurses := true, named := ["unicode/utf8.first", "unicode/utf8.acceptRanges", "math/bits.overflowError", "internal/bytealg.MaxLen"], apart := false, laid := [("unicode/utf8.acceptRanges", laid_unicode_utf8_acceptRanges), ("unicode/utf8.first", laid_unicode_utf8_first)] }
def WheelMotionsSaid : Prop := wheelMotionsRow.holds Tryz.pinned (OpenSpec.ofChange wheelMotionsSpec)

/-- ITS FALSE NEIGHBOUR: 'it returns false'. Refute it at one input. -/
def wheelMotionsWrong : ChangeSpec := { name := "wheelMotions", fn := fun _ => fun
  | [d1, d2, d3] => { results := [.lit (.bool false)], args := [d1, d2, d3] }
  | _ => none }
def WheelMotionsWrongFalsely : Prop := wheelMotionsRow.holds Tryz.pinned (OpenSpec.ofChange wheelMotionsWrong)

/-- 'culetlaw03.WheelVectors': WHATEVER THE INPUT: true; the input reads as it did. -/
def wheelVectorsSpec : ChangeSpec := { name := "wheelVectors", fn := fun _ => fun
  | [d1, d2, d3] => { results := [.lit (.bool true)], args := [d1, d2, d3] }
  | _ => none }
def wheelVectorsRow : OpenClaim := { program := "ytcafjpldfnegiaagreatdoor", sum := "2925c19c20d3ba2b81ff19c38deeb9a9d32f14c8db1025ca28f569e6c4a9ad16", func := "culet/culetlaw03.WheelVectors", spec := "wheelVectors", inPlace := ["internal/bytealg.IndexByteString", "internal/bytealg.IndexString"], unfollowed := true, recurses := true, named := ["unicode/utf8.first", "unicode/utf8.acceptRanges", "math/bits.overflowError", "internal/bytealg.MaxLen"], apart := false, laid := [("unicode/utf8.acceptRanges", laid_unicode_utf8_acceptRanges), ("unicode/utf8.first", laid_unicode_utf8_first)] }
def WheelVectorsSaid : Prop := wheelVectorsRow.holds Tryz.pinned (OpenSpec.ofChange wheelVectorsSpec)

/-- ITS FALSE NEIGHBOUR: 'it returns false'. Refute it at one input. -/
def wheelVectorsWrong : ChangeSpec := { name := "wheelVectors", fn := fun _ => fun
  | [d1, d2, d3] => { results := [.lit (.bool false)], args := [d1, d2, d3] }
  | _ => none }
def WheelVectorsWrongFalsely : Prop := wheelVectorsRow.holds Tryz.pinned (OpenSpec.ofChange wheelVectorsWrong)

/-- 'culetlaw03.WheelLengths': WHATEVER THE INPUT: true; the input reads as it did. -/
def wheelLengthsSpec : ChangeSpec := { name := "wheelLengths", fn := fun _ => fun
  | [d1, d2, d3] => { results := [.lit (.bool true)], args := [d1, d2, d3] }
  | _ => none }
def wheelLengthsRow : OpenClaim := { program := "ytcafjpldfnegiaagreatdoor", sum := "2925c19c20d3ba2b81ff19c38deeb9a9d32f14c8db1025ca28f569e6c4a9ad16", func := "culet/culetlaw03.WheelLengths", spec := "wheelLengths", inPlace := ["internal/bytealg.IndexByteString", "internal/bytealg.IndexString"], unfollowed := true, recurses := true, named := ["unicode/utf8.first", "unicode/utf8.acceptRanges", "math/bits.overflowError", "internal/bytealg.MaxLen"], apart := false, laid := [("unicode/utf8.acceptRanges", laid_unicode_utf8_acceptRanges), ("unicode/utf8.first", laid_unicode_utf8_first)] }
def WheelLengthsSaid : Prop := wheelLengthsRow.holds Tryz.pinned (OpenSpec.ofChange wheelLengthsSpec)

/-- ITS FALSE NEIGHBOUR: 'it returns false'. Refute it at one input. -/
def wheelLengthsWrong : ChangeSpec := { name := "wheelLengths", fn := fun _ => fun
  | [d1, d2, d3] => { results := [.lit (.bool false)], args := [d1, d2, d3] }
  | _ => none }
def WheelLengthsWrongFalsely : Prop := wheelLengthsRow.holds Tryz.pinned (OpenSpec.ofChange wheelLengthsWrong)

/-- 'culetlaw03.WheelIndex': WHATEVER THE INPUT: true; the input reads as it did. -/
def wheelIndexSpec : ChangeSpec := { name := "wheelIndex", fn := fun _ => fun
  | [d] => { results := [.lit (.bool true)], args := [d] }
  | _ => none }
def wheelIndexRow : OpenClaim := { program := "ytcafjpldfnegiaagreatdoor", sum := "2925c19c20d3ba2b81ff19c38deeb9a9d32f14c8db1025ca28f569e6c4a9ad16", func := "culet/culetlaw03.WheelIndex", spec := "wheelIndex", inPlace := ["internal/bytealg.IndexByteString", "internal/bytealg.IndexString"], unfollowed := true, recurses := true, named := ["unicode/utf8.first", "unicode/utf8.acceptRanges", "math/bits.overflowError", "internal/bytealg.MaxLen"], apart := false, laid := [("unicode/utf8.acceptRanges", laid_unicode_utf8_acceptRanges), ("unicode/utf8.first", laid_unicode_utf8_first)] }
def WheelIndexSaid : Prop := wheelIndexRow.holds Tryz.pinned (OpenSpec.ofChange wheelIndexSpec)

/-- ITS FALSE NEIGHBOUR: 'it returns false'. Refute it at one input. -/
def wheelIndexWrong : ChangeSpec := { name := "wheelIndex", fn := fun _ => fun
  | [d] => { results := [.lit (.bool false)], args := [d] }
  | _ => none }
def WheelIndexWrongFalsely : Prop := wheelIndexRow.holds Tryz.pinned (OpenSpec.ofChange wheelIndexWrong)

/-- 'culetlaw03.WheelGroup': WHATEVER THE INPUT: true; the input reads as it did. -/
def wheelGroupSpec : ChangeSpec := { name := "wheelGroup", fn := fun _ => fun
  | [d] => { results := [.lit (.bool true)], args := [d] }
  | _ => none }
def wheelGroupRow : OpenClaim := { program := "ytcafjpldfnegiaagreatdoor", sum := "2925c19c20d3ba2b81ff19c38deeb9a9d32f14c8db1025ca28f569e6c4a9ad16", func := "culet/culetlaw03.WheelGroup", spec := "wheelGroup", inPlace := ["internal/bytealg.IndexByteString", "internal/bytealg.IndexString"], unfollowed := true, recurses := true, named := ["unicode/utf8.first", "unicode/utf8.acceptRanges", "math/bits.overflowError", "internal/bytealg.MaxLen"], apart := false, laid := [("unicode/utf8.acceptRanges", laid_unicode_utf8_acceptRanges), ("unicode/utf8.first", laid_unicode_utf8_first)] }
def WheelGroupSaid : Prop := wheelGroupRow.holds Tryz.pinned (OpenSpec.ofChange wheelGroupSpec)

/-- ITS FALSE NEIGHBOUR: 'it returns false'. Refute it at one input. -/
def wheelGroupWrong : ChangeSpec := { name := "wheelGroup", fn := fun _ => fun
  | [d] => { results := [.lit (.bool false)], args := [d] }
  | _ => none }
def WheelGroupWrongFalsely : Prop := wheelGroupRow.holds Tryz.pinned (OpenSpec.ofChange wheelGroupWrong)

/-- 'culetlaw52.CalibrateNormal': WHATEVER THE INPUT: true; the input reads as it did. -/
def calibrateNormalSpec : ChangeSpec := { name := "calibrateNormal", fn := fun _ => fun
  | [d] => { results := [.lit (.bool true)], args := [d] }
  | _ => none }
def calibrateNormalRow : OpenClaim := { program := "ytcafjpldfnegiaagreatdoor", sum := "2925c19c20d3ba2b81ff19c38deeb9a9d32f14c8db1025ca28f569e6c4a9ad16", func := "culet/culetlaw52.CalibrateNormal", spec := "calibrateNormal", inPlace := ["internal/bytealg.IndexByteString", "internal/bytealg.IndexString"], unfollowed := true, recurses := true, named := ["unicode/utf8.first", "unicode/utf8.acceptRanges", "math/bits.overflowError", "internal/bytealg.MaxLen"], apart := false, laid := [("unicode/utf8.acceptRanges", laid_unicode_utf8_acceptRanges), ("unicode/utf8.first", laid_unicode_utf8_first)] }
def CalibrateNormalSaid : Prop := calibrateNormalRow.holds Tryz.pinned (OpenSpec.ofChange calibrateNormalSpec)

/-- ITS FALSE NEIGHBOUR: 'it returns false'. Refute it at one input. -/
def calibrateNormalWrong : ChangeSpec := { name := "calibrateNormal", fn := fun _ => fun
  | [d] => { results := [.lit (.bool false)], args := [d] }
  | _ => none }
def CalibrateNormalWrongFalsely : Prop := calibrateNormalRow.holds Tryz.pinned (OpenSpec.ofChange calibrateNormalWrong)

/-- 'culetlaw52.CalibrateTurned': WHATEVER THE INPUT: true; the input reads as it did. -/
def calibrateTurnedSpec : ChangeSpec := { name := "calibrateTurned", fn := fun _ => fun
  | [d1, d2, d3] => { results := [.lit (.bool true)], args := [d1, d2, d3] }
  | _ => none }
def calibrateTurnedRow : OpenClaim := { program := "ytcafjpldfnegiaagreatdoor", sum := "2925c19c20d3ba2b81ff19c38deeb9a9d32f14c8db1025ca28f569e6c4a9ad16", func := "culet/culetlaw52.CalibrateTurned", spec := "calibrateTurned", inPlace := ["internal/bytealg.IndexByteString", "internal/bytealg.IndexString"], unfollowed := true, recurses := true, named := ["unicode/utf8.first", "unicode/utf8.acceptRanges", "math/bits.overflowError", "internal/bytealg.MaxLen"], apart := false, laid := [("unicode/utf8.acceptRanges", laid_unicode_utf8_acceptRanges), ("unicode/utf8.first", laid_unicode_utf8_first)] }
def CalibrateTurnedSaid : Prop := calibrateTurnedRow.holds Tryz.pinned (OpenSpec.ofChange calibrateTurnedSpec)

/-- ITS FALSE NEIGHBOUR: 'it returns false'. Refute it at one input. -/
def calibrateTurnedWrong : ChangeSpec := { name := "calibrateTurned", fn := fun _ => fun
  | [d1, d2, d3] => { results := [.lit (.bool false)], args := [d1, d2, d3] }
  | _ => none }
def CalibrateTurnedWrongFalsely : Prop := calibrateTurnedRow.holds Tryz.pinned (OpenSpec.ofChange calibrateTurnedWrong)

/-- 'culetlaw52.CalibrateLeast': WHATEVER THE INPUT: true; the input reads as it did. -/
def calibrateLeastSpec : ChangeSpec := { name := "calibrateLeast", fn := fun _ => fun
  | [d1, d2] => { results := [.lit (.bool true)], args := [d1, d2] }
  | _ => none }
def calibrateLeastRow : OpenClaim := { program := "ytcafjpldfnegiaagreatdoor", sum := "2925c19c20d3ba2b81ff19c38deeb9a9d32f14c8db1025ca28f569e6c4a9ad16", func := "culet/culetlaw52.CalibrateLeast", spec := "calibrateLeast", inPlace := ["internal/bytealg.IndexByteString", "internal/bytealg.IndexString"], unfollowed := true, recurses := true, named := ["unicode/utf8.first", "unicode/utf8.acceptRanges", "math/bits.overflowError", "internal/bytealg.MaxLen"], apart := false, laid := [("unicode/utf8.acceptRanges", laid_unicode_utf8_acceptRanges), ("unicode/utf8.first", laid_unicode_utf8_first)] }
def CalibrateLeastSaid : Prop := calibrateLeastRow.holds Tryz.pinned (OpenSpec.ofChange calibrateLeastSpec)

/-- ITS FALSE NEIGHBOUR: 'it returns false'. Refute it at one input. -/
def calibrateLeastWrong : ChangeSpec := { name := "calibrateLeast", fn := fun _ => fun
  | [d1, d2] => { results := [.lit (.bool false)], args := [d1, d2] }
  | _ => none }
def CalibrateLeastWrongFalsely : Prop := calibrateLeastRow.holds Tryz.pinned (OpenSpec.ofChange calibrateLeastWrong)

/-- 'culetlaw52.CalibrateExact': WHATEVER THE INPUT: true; the input reads as it did. -/
def calibrateExactSpec : ChangeSpec := { name := "calibrateExact", fn := fun _ => fun
  | [d1, d2] => { results := [.lit (.bool true)], args := [d1, d2] }
  | _ => none }
def calibrateExactRow : OpenClaim := { program := "ytcafjpldfnegiaagreatdoor", sum := "2925c19c20d3ba2b81ff19c38deeb9a9d32f14c8db1025ca28f569e6c4a9ad16", func := "culet/culetlaw52.CalibrateExact", spec := "calibrateExact", inPlace := ["internal/bytealg.IndexByteString", "internal/bytealg.IndexString"], unfollowed := true, recurses := true, named := ["unicode/utf8.first", "unicode/utf8.acceptRanges", "math/bits.overflowError", "internal/bytealg.MaxLen"], apart := false, laid := [("unicode/utf8.acceptRanges", laid_unicode_utf8_acceptRanges), ("unicode/utf8.first", laid_unicode_utf8_first)] }
def CalibrateExactSaid : Prop := calibrateExactRow.holds Tryz.pinned (OpenSpec.ofChange calibrateExactSpec)

/-- ITS FALSE NEIGHBOUR: 'it returns false'. Refute it at one input. -/
def calibrateExactWrong : ChangeSpec := { name := "calibrateExact", fn := fun _ => fun
  | [d1, d2] => { results := [.lit (.bool false)], args := [d1, d2] }
  | _ => none }
def CalibrateExactWrongFalsely : Prop := calibrateExactRow.holds Tryz.pinned (OpenSpec.ofChange calibrateExactWrong)

/-- 'culetlaw05.PlaneOf': WHATEVER THE INPUT: true; the input reads as it did. -/
def planeOfSpec : ChangeSpec := { name := "planeOf", fn := fun _ => fun
  | [d1, d2, d3] => { results := [.lit (.bool true)], args := [d1, d2, d3] }
  | _ => none }
def planeOfRow : OpenClaim := { program := "ytcafjpldfnegiaagreatdoor", sum := "2925c19c20d3ba2b81ff19c38deeb9a9d32f14c8db1025ca28f569e6c4a9ad16", func := "culet/culetlaw05.PlaneOf", spec := "planeOf", inPlace := ["internal/bytealg.IndexByteString", "internal/bytealg.IndexString"], unfollowed := true, recurses := true, named := ["math/bits.overflowError", "unicode/utf8.first", "unicode/utf8.acceptRanges", "internal/bytealg.MaxLen"], apart := false, laid := [("unicode/utf8.acceptRanges", laid_unicode_utf8_acceptRanges), ("unicode/utf8.first", laid_unicode_utf8_first)] }
def PlaneOfSaid : Prop := planeOfRow.holds Tryz.pinned (OpenSpec.ofChange planeOfSpec)

/-- ITS FALSE NEIGHBOUR: 'it returns false'. Refute it at one input. -/
def planeOfWrong : ChangeSpec := { name := "planeOf", fn := fun _ => fun
  | [d1, d2, d3] => { results := [.lit (.bool false)], args := [d1, d2, d3] }
  | _ => none }
def PlaneOfWrongFalsely : Prop := planeOfRow.holds Tryz.pinned (OpenSpec.ofChange planeOfWrong)

/-- 'culetlaw52.CalibrateFit': WHATEVER THE INPUT: true; the input reads as it did. -/
def calibrateFitSpec : ChangeSpec := { name := "calibrateFit", fn := fun _ => fun
  | [d1, d2] => { results := [.lit (.bool true)], args := [d1, d2] }
  | _ => none }
def calibrateFitRow : OpenClaim := { program := "ytcafjpldfnegiaagreatdoor", sum := "2925c19c20d3ba2b81ff19c38deeb9a9d32f14c8db1025ca28f569e6c4a9ad16", func := "culet/culetlaw52.CalibrateFit", spec := "calibrateFit", inPlace := ["internal/bytealg.IndexByteString", "internal/bytealg.IndexString"], unfollowed := true, recurses := true, named := ["unicode/utf8.first", "unicode/utf8.acceptRanges", "math/bits.overflowError", "internal/bytealg.MaxLen"], apart := false, laid := [("unicode/utf8.acceptRanges", laid_unicode_utf8_acceptRanges), ("unicode/utf8.first", laid_unicode_utf8_first)] }
def CalibrateFitSaid : Prop := calibrateFitRow.holds Tryz.pinned (OpenSpec.ofChange calibrateFitSpec)

/-- ITS FALSE NEIGHBOUR: 'it returns false'. Refute it at one input. -/
def calibrateFitWrong : ChangeSpec := { name := "calibrateFit", fn := fun _ => fun
  | [d1, d2] => { results := [.lit (.bool false)], args := [d1, d2] }
  | _ => none }
def CalibrateFitWrongFalsely : Prop := calibrateFitRow.holds Tryz.pinned (OpenSpec.ofChange calibrateFitWrong)

/-- 'culetlaw05.PlaneSettings': WHATEVER THE INPUT: true; the input reads as it did. -/
def planeSettingsSpec : ChangeSpec := { name := "planeSettings", fn := fun _ => fun
  | [d1, d2, d3] => { results := [.lit (.bool true)], args := [d1, d2, d3] }
  | _ => none }
def planeSettingsRow : OpenClaim := { program := "ytcafjpldfnegiaagreatdoor", sum := "2925c19c20d3ba2b81ff19c38deeb9a9d32f14c8db1025ca28f569e6c4a9ad16", func := "culet/culetlaw05.PlaneSettings", spec := "planeSettings", inPlace := ["internal/bytealg.IndexByteString", "internal/bytealg.IndexString"], unfollowed := true, recurses := true, named := ["math/bits.overflowError", "unicode/utf8.first", "unicode/utf8.acceptRanges", "internal/bytealg.MaxLen"], apart := false, laid := [("unicode/utf8.acceptRanges", laid_unicode_utf8_acceptRanges), ("unicode/utf8.first", laid_unicode_utf8_first)] }
def PlaneSettingsSaid : Prop := planeSettingsRow.holds Tryz.pinned (OpenSpec.ofChange planeSettingsSpec)

/-- ITS FALSE NEIGHBOUR: 'it returns false'. Refute it at one input. -/
def planeSettingsWrong : ChangeSpec := { name := "planeSettings", fn := fun _ => fun
  | [d1, d2, d3] => { results := [.lit (.bool false)], args := [d1, d2, d3] }
  | _ => none }
def PlaneSettingsWrongFalsely : Prop := planeSettingsRow.holds Tryz.pinned (OpenSpec.ofChange planeSettingsWrong)

/-- 'culetlaw05.PlaneCanonical': WHATEVER THE INPUT: true; the input reads as it did. -/
def planeCanonicalSpec : ChangeSpec := { name := "planeCanonical", fn := fun _ => fun
  | [d1, d2, d3] => { results := [.lit (.bool true)], args := [d1, d2, d3] }
  | _ => none }
def planeCanonicalRow : OpenClaim := { program := "ytcafjpldfnegiaagreatdoor", sum := "2925c19c20d3ba2b81ff19c38deeb9a9d32f14c8db1025ca28f569e6c4a9ad16", func := "culet/culetlaw05.PlaneCanonical", spec := "planeCanonical", inPlace := ["internal/bytealg.IndexByteString", "internal/bytealg.IndexString"], unfollowed := true, recurses := true, named := ["math/bits.overflowError", "unicode/utf8.first", "unicode/utf8.acceptRanges", "internal/bytealg.MaxLen"], apart := false, laid := [("unicode/utf8.acceptRanges", laid_unicode_utf8_acceptRanges), ("unicode/utf8.first", laid_unicode_utf8_first)] }
def PlaneCanonicalSaid : Prop := planeCanonicalRow.holds Tryz.pinned (OpenSpec.ofChange planeCanonicalSpec)

/-- ITS FALSE NEIGHBOUR: 'it returns false'. Refute it at one input. -/
def planeCanonicalWrong : ChangeSpec := { name := "planeCanonical", fn := fun _ => fun
  | [d1, d2, d3] => { results := [.lit (.bool false)], args := [d1, d2, d3] }
  | _ => none }
def PlaneCanonicalWrongFalsely : Prop := planeCanonicalRow.holds Tryz.pinned (OpenSpec.ofChange planeCanonicalWrong)

/-- 'culetlaw05.PlaneThrough': WHATEVER THE INPUT: true; the input reads as it did. -/
def planeThroughSpec : ChangeSpec := { name := "planeThrough", fn := fun _ => fun
  | [d1, d2, d3] => { results := [.lit (.bool true)], args := [d1, d2, d3] }
  | _ => none }
def planeThroughRow : OpenClaim := { program := "ytcafjpldfnegiaagreatdoor", sum := "2925c19c20d3ba2b81ff19c38deeb9a9d32f14c8db1025ca28f569e6c4a9ad16", func := "culet/culetlaw05.PlaneThrough", spec := "planeThrough", inPlace := ["internal/bytealg.IndexByteString", "internal/bytealg.IndexString"], unfollowed := true, recurses := true, named := ["math/bits.overflowError", "unicode/utf8.first", "unicode/utf8.acceptRanges", "internal/bytealg.MaxLen"], apart := false, laid := [("unicode/utf8.acceptRanges", laid_unicode_utf8_acceptRanges), ("unicode/utf8.first", laid_unicode_utf8_first)] }
def PlaneThroughSaid : Prop := planeThroughRow.holds Tryz.pinned (OpenSpec.ofChange planeThroughSpec)

/-- ITS FALSE NEIGHBOUR: 'it returns false'. Refute it at one input. -/
def planeThroughWrong : ChangeSpec := { name := "planeThrough", fn := fun _ => fun
  | [d1, d2, d3] => { results := [.lit (.bool false)], args := [d1, d2, d3] }
  | _ => none }
def PlaneThroughWrongFalsely : Prop := planeThroughRow.holds Tryz.pinned (OpenSpec.ofChange planeThroughWrong)

/-- 'culetlaw05.PlaneMeet': WHATEVER THE INPUT: true; the input reads as it did. -/
def planeMeetSpec : ChangeSpec := { name := "planeMeet", fn := fun _ => fun
  | [d1, d2, d3] => { results := [.lit (.bool true)], args := [d1, d2, d3] }
  | _ => none }
def planeMeetRow : OpenClaim := { program := "ytcafjpldfnegiaagreatdoor", sum := "2925c19c20d3ba2b81ff19c38deeb9a9d32f14c8db1025ca28f569e6c4a9ad16", func := "culet/culetlaw05.PlaneMeet", spec := "planeMeet", inPlace := ["internal/bytealg.IndexByteString", "internal/bytealg.IndexString"], unfollowed := true, recurses := true, named := ["math/bits.overflowError", "unicode/utf8.first", "unicode/utf8.acceptRanges", "internal/bytealg.MaxLen"], apart := false, laid := [("unicode/utf8.acceptRanges", laid_unicode_utf8_acceptRanges), ("unicode/utf8.first", laid_unicode_utf8_first)] }
def PlaneMeetSaid : Prop := planeMeetRow.holds Tryz.pinned (OpenSpec.ofChange planeMeetSpec)

/-- ITS FALSE NEIGHBOUR: 'it returns false'. Refute it at one input. -/
def planeMeetWrong : ChangeSpec := { name := "planeMeet", fn := fun _ => fun
  | [d1, d2, d3] => { results := [.lit (.bool false)], args := [d1, d2, d3] }
  | _ => none }
def PlaneMeetWrongFalsely : Prop := planeMeetRow.holds Tryz.pinned (OpenSpec.ofChange planeMeetWrong)

/-- 'culetlaw05.PlanePoints': WHATEVER THE INPUT: true; the input reads as it did. -/
def planePointsSpec : ChangeSpec := { name := "planePoints", fn := fun _ => fun
  | [d1, d2] => { results := [.lit (.bool true)], args := [d1, d2] }
  | _ => none }
def planePointsRow : OpenClaim := { program := "ytcafjpldfnegiaagreatdoor", sum := "2925c19c20d3ba2b81ff19c38deeb9a9d32f14c8db1025ca28f569e6c4a9ad16", func := "culet/culetlaw05.PlanePoints", spec := "planePoints", inPlace := ["internal/bytealg.IndexByteString", "internal/bytealg.IndexString"], unfollowed := true, recurses := true, named := ["math/bits.overflowError", "unicode/utf8.first", "unicode/utf8.acceptRanges", "internal/bytealg.MaxLen"], apart := false, laid := [("unicode/utf8.acceptRanges", laid_unicode_utf8_acceptRanges), ("unicode/utf8.first", laid_unicode_utf8_first)] }
def PlanePointsSaid : Prop := planePointsRow.holds Tryz.pinned (OpenSpec.ofChange planePointsSpec)

/-- ITS FALSE NEIGHBOUR: 'it returns false'. Refute it at one input. -/
def planePointsWrong : ChangeSpec := { name := "planePoints", fn := fun _ => fun
  | [d1, d2] => { results := [.lit (.bool false)], args := [d1, d2] }
  | _ => none }
def PlanePointsWrongFalsely : Prop := planePointsRow.holds Tryz.pinned (OpenSpec.ofChange planePointsWrong)

/-- 'culetlaw05.PlaneMoved': WHATEVER THE INPUT: true; the input reads as it did. -/
def planeMovedSpec : ChangeSpec := { name := "planeMoved", fn := fun _ => fun
  | [d1, d2, d3] => { results := [.lit (.bool true)], args := [d1, d2, d3] }
  | _ => none }
def planeMovedRow : OpenClaim := { program := "ytcafjpldfnegiaagreatdoor", sum := "2925c19c20d3ba2b81ff19c38deeb9a9d32f14c8db1025ca28f569e6c4a9ad16", func := "culet/culetlaw05.PlaneMoved", spec := "planeMoved", inPlace := ["internal/bytealg.IndexByteString", "internal/bytealg.IndexString"], unfollowed := true, recurses := true, named := ["math/bits.overflowError", "unicode/utf8.first", "unicode/utf8.acceptRanges", "internal/bytealg.MaxLen"], apart := false, laid := [("unicode/utf8.acceptRanges", laid_unicode_utf8_acceptRanges), ("unicode/utf8.first", laid_unicode_utf8_first)] }
def PlaneMovedSaid : Prop := planeMovedRow.holds Tryz.pinned (OpenSpec.ofChange planeMovedSpec)

/-- ITS FALSE NEIGHBOUR: 'it returns false'. Refute it at one input. -/
def planeMovedWrong : ChangeSpec := { name := "planeMoved", fn := fun _ => fun
  | [d1, d2, d3] => { results := [.lit (.bool false)], args := [d1, d2, d3] }
  | _ => none }
def PlaneMovedWrongFalsely : Prop := planeMovedRow.holds Tryz.pinned (OpenSpec.ofChange planeMovedWrong)

/-- 'culetlaw05.PlaneChanges': WHATEVER THE INPUT: true; the input reads as it did. -/
def planeChangesSpec : ChangeSpec := { name := "planeChanges", fn := fun _ => fun
  | [d1, d2, d3] => { results := [.lit (.bool true)], args := [d1, d2, d3] }
  | _ => none }
def planeChangesRow : OpenClaim := { program := "ytcafjpldfnegiaagreatdoor", sum := "2925c19c20d3ba2b81ff19c38deeb9a9d32f14c8db1025ca28f569e6c4a9ad16", func := "culet/culetlaw05.PlaneChanges", spec := "planeChanges", inPlace := ["internal/bytealg.IndexByteString", "internal/bytealg.IndexString"], unfollowed := true, recurses := true, named := ["math/bits.overflowError", "unicode/utf8.first", "unicode/utf8.acceptRanges", "internal/bytealg.MaxLen"], apart := false, laid := [("unicode/utf8.acceptRanges", laid_unicode_utf8_acceptRanges), ("unicode/utf8.first", laid_unicode_utf8_first)] }
def PlaneChangesSaid : Prop := planeChangesRow.holds Tryz.pinned (OpenSpec.ofChange planeChangesSpec)

/-- ITS FALSE NEIGHBOUR: 'it returns false'. Refute it at one input. -/
def planeChangesWrong : ChangeSpec := { name := "planeChanges", fn := fun _ => fun
  | [d1, d2, d3] => { results := [.lit (.bool false)], args := [d1, d2, d3] }
  | _ => none }
def PlaneChangesWrongFalsely : Prop := planeChangesRow.holds Tryz.pinned (OpenSpec.ofChange planeChangesWrong)

/-- 'culetlaw52.CalibrateModel': WHATEVER THE INPUT: true; the input reads as it did. -/
def calibrateModelSpec : ChangeSpec := { name := "calibrateModel", fn := fun _ => fun
  | [d1, d2, d3] => { results := [.lit (.bool true)], args := [d1, d2, d3] }
  | _ => none }
def calibrateModelRow : OpenClaim := { program := "ytcafjpldfnegiaagreatdoor", sum := "2925c19c20d3ba2b81ff19c38deeb9a9d32f14c8db1025ca28f569e6c4a9ad16", func := "culet/culetlaw52.CalibrateModel", spec := "calibrateModel", inPlace := ["internal/bytealg.IndexByteString", "internal/bytealg.IndexString"], unfollowed := true, recurses := true, named := ["unicode/utf8.first", "unicode/utf8.acceptRanges", "math/bits.overflowError", "internal/bytealg.MaxLen"], apart := false, laid := [("unicode/utf8.acceptRanges", laid_unicode_utf8_acceptRanges), ("unicode/utf8.first", laid_unicode_utf8_first)] }
def CalibrateModelSaid : Prop := calibrateModelRow.holds Tryz.pinned (OpenSpec.ofChange calibrateModelSpec)

/-- ITS FALSE NEIGHBOUR: 'it returns false'. Refute it at one input. -/
def calibrateModelWrong : ChangeSpec := { name := "calibrateModel", fn := fun _ => fun
  | [d1, d2, d3] => { results := [.lit (.bool false)], args := [d1, d2, d3] }
  | _ => none }
def CalibrateModelWrongFalsely : Prop := calibrateModelRow.holds Tryz.pinned (OpenSpec.ofChange calibrateModelWrong)

/- THE SECOND FORM. 'bulk': how many values and letters a reading holds, each counted each time it is reached (what is shared counts as often as it is met; a slice's spare places count too). A statement '..UptoSaid' is the law's where the arguments, and the package variables that the reading takes, are together of bulk at most 1048576: NARROWER than '..Said'. Prove '..Said' where nothing that the law and all that it calls make is longer than what came in: it says more and counts as full. Else prove '..UptoSaid'. A law counts once. -/
mutual
def uptoBulk {H : Type} : DataW H → Nat
  | .lit (.string bytes) => bytes.length + 1
  | .lit _ => 1
  | .nil => 1
  | .ptr d => uptoBulk d + 1
  | .slice elems spare => uptoBulkAll elems + uptoBulkAll spare + 1
  | .agg parts => uptoBulkAll parts + 1
  | .iface _ d => uptoBulk d + 1
  | .map entries => uptoBulkEntries entries + 1
  | .held _ => 1
def uptoBulkAll {H : Type} : List (DataW H) → Nat
  | [] => 0
  | d :: r => uptoBulk d + uptoBulkAll r
def uptoBulkEntries {H : Type} : List (Lit × DataW H) → Nat
  | [] => 0
  | x :: r => uptoBulkEntry x + uptoBulkEntries r
def uptoBulkEntry {H : Type} : Lit × DataW H → Nat
  | (.string bytes, d) => bytes.length + uptoBulk d + 1
  | (_, d) => uptoBulk d + 1
 end
def uptoSmall : (H : Type) → List (DataW H) → Bool := fun _ ds => decide (uptoBulkAll ds ≤ 1048576)
def OpenSpec.upto (s : _root_.Go.ChangeSpec) : _root_.Go.OpenSpec := { _root_.Go.OpenSpec.ofChange s with cond := some uptoSmall }

/-- 'culetlaw03.WheelOrders', WHERE WHAT IT READS IS OF BULK AT MOST 1048576: true; the input reads as it did. -/
def wheelOrdersUptoRow : OpenClaim := { program := "ytcafjpldfnegiaagreatdoor", sum := "2925c19c20d3ba2b81ff19c38deeb9a9d32f14c8db1025ca28f569e6c4a9ad16", func := "culet/culetlaw03.WheelOrders", spec := "wheelOrders", inPlace := ["internal/bytealg.IndexByteString", "internal/bytealg.IndexString"], unfollowed := true, recurses := true, named := ["unicode/utf8.first", "unicode/utf8.acceptRanges", "math/bits.overflowError", "internal/bytealg.MaxLen"], apart := false, laid := [("unicode/utf8.acceptRanges", laid_unicode_utf8_acceptRanges), ("unicode/utf8.first", laid_unicode_utf8_first)], narrowed := true }
def WheelOrdersUptoSaid : Prop := wheelOrdersUptoRow.holds Tryz.pinned (OpenSpec.upto wheelOrdersSpec)

/-- 'culetlaw03.WheelTrig', WHERE WHAT IT READS IS OF BULK AT MOST 1048576: true; the input reads as it did. -/
def wheelTrigUptoRow : OpenClaim := { program := "ytcafjpldfnegiaagreatdoor", sum := "2925c19c20d3ba2b81ff19c38deeb9a9d32f14c8db1025ca28f569e6c4a9ad16", func := "culet/culetlaw03.WheelTrig", spec := "wheelTrig", inPlace := ["internal/bytealg.IndexByteString", "internal/bytealg.IndexString"], unfollowed := true, recurses := true, named := ["unicode/utf8.first", "unicode/utf8.acceptRanges", "math/bits.overflowError", "internal/bytealg.MaxLen"], apart := false, laid := [("unicode/utf8.acceptRanges", laid_unicode_utf8_acceptRanges), ("unicode/utf8.first", laid_unicode_utf8_first)], narrowed := true }
def WheelTrigUptoSaid : Prop := wheelTrigUptoRow.holds Tryz.pinned (OpenSpec.upto wheelTrigSpec)

/-- 'culetlaw03.WheelCircle', WHERE WHAT IT READS IS OF BULK AT MOST 1048576: true; the input reads as it did. -/
def wheelCircleUptoRow : OpenClaim := { program := "ytcafjpldfnegiaagreatdoor", sum := "2925c19c20d3ba2b81ff19c38deeb9a9d32f14c8db1025ca28f569e6c4a9ad16", func := "culet/culetlaw03.WheelCircle", spec := "wheelCircle", inPlace := ["internal/bytealg.IndexByteString", "internal/bytealg.IndexString"], unfollowed := true, recurses := true, named := ["unicode/utf8.first", "unicode/utf8.acceptRanges", "math/bits.overflowError", "internal/bytealg.MaxLen"], apart := false, laid := [("unicode/utf8.acceptRanges", laid_unicode_utf8_acceptRanges), ("unicode/utf8.first", laid_unicode_utf8_first)], narrowed := true }
def WheelCircleUptoSaid : Prop := wheelCircleUptoRow.holds Tryz.pinned (OpenSpec.upto wheelCircleSpec)

/-- 'culetlaw03.WheelMotions', WHERE WHAT IT READS IS OF BULK AT MOST 1048576: true; the input reads as it did. -/
def wheelMotionsUptoRow : OpenClaim := { program := "ytcafjpldfnegiaagreatdoor", sum := "2925c19c20d3ba2b81ff19c38deeb9a9d32f14c8db1025ca28f569e6c4a9ad16", func := "culet/culetlaw03.WheelMotions", spec := "wheelMotions", inPlace := ["internal/bytealg.IndexByteString", "internal/bytealg.IndexString"], unfollowed := true, recurses := true, named := ["unicode/utf8.first", "unicode/utf8.acceptRanges", "math/bits.overflowError", "internal/bytealg.MaxLen"], apart := false, laid := [("unicode/utf8.acceptRanges", laid_unicode_utf8_acceptRanges), ("unicode/utf8.first", laid_unicode_utf8_first)], narrowed := true }
def WheelMotionsUptoSaid : Prop := wheelMotionsUptoRow.holds Tryz.pinned (OpenSpec.upto wheelMotionsSpec)

/-- 'culetlaw03.WheelVectors', WHERE WHAT IT READS IS OF BULK AT MOST 1048576: true; the input reads as it did. -/
def wheelVectorsUptoRow : OpenClaim := { program := "ytcafjpldfnegiaagreatdoor", sum := "2925c19c20d3ba2b81ff19c38deeb9a9d32f14c8db1025ca28f569e6c4a9ad16", func := "culet/culetlaw03.WheelVectors", spec := "wheelVectors", inPlace := ["internal/bytealg.IndexByteString", "internal/bytealg.IndexString"], unfollowed := true, recurses := true, named := ["unicode/utf8.first", "unicode/utf8.acceptRanges", "math/bits.overflowError", "internal/bytealg.MaxLen"], apart := false, laid := [("unicode/utf8.acceptRanges", laid_unicode_utf8_acceptRanges), ("unicode/utf8.first", laid_unicode_utf8_first)], narrowed := true }
def WheelVectorsUptoSaid : Prop := wheelVectorsUptoRow.holds Tryz.pinned (OpenSpec.upto wheelVectorsSpec)

/-- 'culetlaw03.WheelLengths', WHERE WHAT IT READS IS OF BULK AT MOST 1048576: true; the input reads as it did. -/
def wheelLengthsUptoRow : OpenClaim := { program := "ytcafjpldfnegiaagreatdoor", sum := "2925c19c20d3ba2b81ff19c38deeb9a9d32f14c8db1025ca28f569e6c4a9ad16", func := "culet/culetlaw03.WheelLengths", spec := "wheelLengths", inPlace := ["internal/bytealg.IndexByteString", "internal/bytealg.IndexString"], unfollowed := true, recurses := true, named := ["unicode/utf8.first", "unicode/utf8.acceptRanges", "math/bits.overflowError", "internal/bytealg.MaxLen"], apart := false, laid := [("unicode/utf8.acceptRanges", laid_unicode_utf8_acceptRanges), ("unicode/utf8.first", laid_unicode_utf8_first)], narrowed := true }
def WheelLengthsUptoSaid : Prop := wheelLengthsUptoRow.holds Tryz.pinned (OpenSpec.upto wheelLengthsSpec)

/-- 'culetlaw03.WheelIndex', WHERE WHAT IT READS IS OF BULK AT MOST 1048576: true; the input reads as it did. -/
def wheelIndexUptoRow : OpenClaim := { program := "ytcafjpldfnegiaagreatdoor", sum := "2925c19c20d3ba2b81ff19c38deeb9a9d32f14c8db1025ca28f569e6c4a9ad16", func := "culet/culetlaw03.WheelIndex", spec := "wheelIndex", inPlace := ["internal/bytealg.IndexByteString", "internal/bytealg.IndexString"], unfollowed := true, recurses := true, named := ["unicode/utf8.first", "unicode/utf8.acceptRanges", "math/bits.overflowError", "internal/bytealg.MaxLen"], apart := false, laid := [("unicode/utf8.acceptRanges", laid_unicode_utf8_acceptRanges), ("unicode/utf8.first", laid_unicode_utf8_first)], narrowed := true }
def WheelIndexUptoSaid : Prop := wheelIndexUptoRow.holds Tryz.pinned (OpenSpec.upto wheelIndexSpec)

/-- 'culetlaw03.WheelGroup', WHERE WHAT IT READS IS OF BULK AT MOST 1048576: true; the input reads as it did. -/
def wheelGroupUptoRow : OpenClaim := { program := "ytcafjpldfnegiaagreatdoor", sum := "2925c19c20d3ba2b81ff19c38deeb9a9d32f14c8db1025ca28f569e6c4a9ad16", func := "culet/culetlaw03.WheelGroup", spec := "wheelGroup", inPlace := ["internal/bytealg.IndexByteString", "internal/bytealg.IndexString"], unfollowed := true, recurses := true, named := ["unicode/utf8.first", "unicode/utf8.acceptRanges", "math/bits.overflowError", "internal/bytealg.MaxLen"], apart := false, laid := [("unicode/utf8.acceptRanges", laid_unicode_utf8_acceptRanges), ("unicode/utf8.first", laid_unicode_utf8_first)], narrowed := true }
def WheelGroupUptoSaid : Prop := wheelGroupUptoRow.holds Tryz.pinned (OpenSpec.upto wheelGroupSpec)

/-- 'culetlaw52.CalibrateNormal', WHERE WHAT IT READS IS OF BULK AT MOST 1048576: true; the input reads as it did. -/
def calibrateNormalUptoRow : OpenClaim := { program := "ytcafjpldfnegiaagreatdoor", sum := "2925c19c20d3ba2b81ff19c38deeb9a9d32f14c8db1025ca28f569e6c4a9ad16", func := "culet/culetlaw52.CalibrateNormal", spec := "calibrateNormal", inPlace := ["internal/bytealg.IndexByteString", "internal/bytealg.IndexString"], unfollowed := true, recurses := true, named := ["unicode/utf8.first", "unicode/utf8.acceptRanges", "math/bits.overflowError", "internal/bytealg.MaxLen"], apart := false, laid := [("unicode/utf8.acceptRanges", laid_unicode_utf8_acceptRanges), ("unicode/utf8.first", laid_unicode_utf8_first)], narrowed := true }
def CalibrateNormalUptoSaid : Prop := calibrateNormalUptoRow.holds Tryz.pinned (OpenSpec.upto calibrateNormalSpec)

/-- 'culetlaw52.CalibrateTurned', WHERE WHAT IT READS IS OF BULK AT MOST 1048576: true; the input reads as it did. -/
def calibrateTurnedUptoRow : OpenClaim := { program := "ytcafjpldfnegiaagreatdoor", sum := "2925c19c20d3ba2b81ff19c38deeb9a9d32f14c8db1025ca28f569e6c4a9ad16", func := "culet/culetlaw52.CalibrateTurned", spec := "calibrateTurned", inPlace := ["internal/bytealg.IndexByteString", "internal/bytealg.IndexString"], unfollowed := true, recurses := true, named := ["unicode/utf8.first", "unicode/utf8.acceptRanges", "math/bits.overflowError", "internal/bytealg.MaxLen"], apart := false, laid := [("unicode/utf8.acceptRanges", laid_unicode_utf8_acceptRanges), ("unicode/utf8.first", laid_unicode_utf8_first)], narrowed := true }
def CalibrateTurnedUptoSaid : Prop := calibrateTurnedUptoRow.holds Tryz.pinned (OpenSpec.upto calibrateTurnedSpec)

/-- 'culetlaw52.CalibrateLeast', WHERE WHAT IT READS IS OF BULK AT MOST 1048576: true; the input reads as it did. -/
def calibrateLeastUptoRow : OpenClaim := { program := "ytcafjpldfnegiaagreatdoor", sum := "2925c19c20d3ba2b81ff19c38deeb9a9d32f14c8db1025ca28f569e6c4a9ad16", func := "culet/culetlaw52.CalibrateLeast", spec := "calibrateLeast", inPlace := ["internal/bytealg.IndexByteString", "internal/bytealg.IndexString"], unfollowed := true, recurses := true, named := ["unicode/utf8.first", "unicode/utf8.acceptRanges", "math/bits.overflowError", "internal/bytealg.MaxLen"], apart := false, laid := [("unicode/utf8.acceptRanges", laid_unicode_utf8_acceptRanges), ("unicode/utf8.first", laid_unicode_utf8_first)], narrowed := true }
def CalibrateLeastUptoSaid : Prop := calibrateLeastUptoRow.holds Tryz.pinned (OpenSpec.upto calibrateLeastSpec)

/-- 'culetlaw52.CalibrateExact', WHERE WHAT IT READS IS OF BULK AT MOST 1048576: true; the input reads as it did. -/
def calibrateExactUptoRow : OpenClaim := { program := "ytcafjpldfnegiaagreatdoor", sum := "2925c19c20d3ba2b81ff19c38deeb9a9d32f14c8db1025ca28f569e6c4a9ad16", func := "culet/culetlaw52.CalibrateExact", spec := "calibrateExact", inPlace := ["internal/bytealg.IndexByteString", "internal/bytealg.IndexString"], unfollowed := true, recurses := true, named := ["unicode/utf8.first", "unicode/utf8.acceptRanges", "math/bits.overflowError", "internal/bytealg.MaxLen"], apart := false, laid := [("unicode/utf8.acceptRanges", laid_unicode_utf8_acceptRanges), ("unicode/utf8.first", laid_unicode_utf8_first)], narrowed := true }
def CalibrateExactUptoSaid : Prop := calibrateExactUptoRow.holds Tryz.pinned (OpenSpec.upto calibrateExactSpec)

/-- 'culetlaw05.PlaneOf', WHERE WHAT IT READS IS OF BULK AT MOST 1048576: true; the input reads as it did. -/
def planeOfUptoRow : OpenClaim := { program := "ytcafjpldfnegiaagreatdoor", sum := "2925c19c20d3ba2b81ff19c38deeb9a9d32f14c8db1025ca28f569e6c4a9ad16", func := "culet/culetlaw05.PlaneOf", spec := "planeOf", inPlace := ["internal/bytealg.IndexByteString", "internal/bytealg.IndexString"], unfollowed := true, recurses := true, named := ["math/bits.overflowError", "unicode/utf8.first", "unicode/utf8.acceptRanges", "internal/bytealg.MaxLen"], apart := false, laid := [("unicode/utf8.acceptRanges", laid_unicode_utf8_acceptRanges), ("unicode/utf8.first", laid_unicode_utf8_first)], narrowed := true }
def PlaneOfUptoSaid : Prop := planeOfUptoRow.holds Tryz.pinned (OpenSpec.upto planeOfSpec)

/-- 'culetlaw52.CalibrateFit', WHERE WHAT IT READS IS OF BULK AT MOST 1048576: true; the input reads as it did. -/
def calibrateFitUptoRow : OpenClaim := { program := "ytcafjpldfnegiaagreatdoor", sum := "2925c19c20d3ba2b81ff19c38deeb9a9d32f14c8db1025ca28f569e6c4a9ad16", func := "culet/culetlaw52.CalibrateFit", spec := "calibrateFit", inPlace := ["internal/bytealg.IndexByteString", "internal/bytealg.IndexString"], unfollowed := true, recurses := true, named := ["unicode/utf8.first", "unicode/utf8.acceptRanges", "math/bits.overflowError", "internal/bytealg.MaxLen"], apart := false, laid := [("unicode/utf8.acceptRanges", laid_unicode_utf8_acceptRanges), ("unicode/utf8.first", laid_unicode_utf8_first)], narrowed := true }
def CalibrateFitUptoSaid : Prop := calibrateFitUptoRow.holds Tryz.pinned (OpenSpec.upto calibrateFitSpec)

/-- 'culetlaw05.PlaneSettings', WHERE WHAT IT READS IS OF BULK AT MOST 1048576: true; the input reads as it did. -/
def planeSettingsUptoRow : OpenClaim := { program := "ytcafjpldfnegiaagreatdoor", sum := "2925c19c20d3ba2b81ff19c38deeb9a9d32f14c8db1025ca28f569e6c4a9ad16", func := "culet/culetlaw05.PlaneSettings", spec := "planeSettings", inPlace := ["internal/bytealg.IndexByteString", "internal/bytealg.IndexString"], unfollowed := true, recurses := true, named := ["math/bits.overflowError", "unicode/utf8.first", "unicode/utf8.acceptRanges", "internal/bytealg.MaxLen"], apart := false, laid := [("unicode/utf8.acceptRanges", laid_unicode_utf8_acceptRanges), ("unicode/utf8.first", laid_unicode_utf8_first)], narrowed := true }
def PlaneSettingsUptoSaid : Prop := planeSettingsUptoRow.holds Tryz.pinned (OpenSpec.upto planeSettingsSpec)

/-- 'culetlaw05.PlaneCanonical', WHERE WHAT IT READS IS OF BULK AT MOST 1048576: true; the input reads as it did. -/
def planeCanonicalUptoRow : OpenClaim := { program := "ytcafjpldfnegiaagreatdoor", sum := "2925c19c20d3ba2b81ff19c38deeb9a9d32f14c8db1025ca28f569e6c4a9ad16", func := "culet/culetlaw05.PlaneCanonical", spec := "planeCanonical", inPlace := ["internal/bytealg.IndexByteString", "internal/bytealg.IndexString"], unfollowed := true, recurses := true, named := ["math/bits.overflowError", "unicode/utf8.first", "unicode/utf8.acceptRanges", "internal/bytealg.MaxLen"], apart := false, laid := [("unicode/utf8.acceptRanges", laid_unicode_utf8_acceptRanges), ("unicode/utf8.first", laid_unicode_utf8_first)], narrowed := true }
def PlaneCanonicalUptoSaid : Prop := planeCanonicalUptoRow.holds Tryz.pinned (OpenSpec.upto planeCanonicalSpec)

/-- 'culetlaw05.PlaneThrough', WHERE WHAT IT READS IS OF BULK AT MOST 1048576: true; the input reads as it did. -/
def planeThroughUptoRow : OpenClaim := { program := "ytcafjpldfnegiaagreatdoor", sum := "2925c19c20d3ba2b81ff19c38deeb9a9d32f14c8db1025ca28f569e6c4a9ad16", func := "culet/culetlaw05.PlaneThrough", spec := "planeThrough", inPlace := ["internal/bytealg.IndexByteString", "internal/bytealg.IndexString"], unfollowed := true, recurses := true, named := ["math/bits.overflowError", "unicode/utf8.first", "unicode/utf8.acceptRanges", "internal/bytealg.MaxLen"], apart := false, laid := [("unicode/utf8.acceptRanges", laid_unicode_utf8_acceptRanges), ("unicode/utf8.first", laid_unicode_utf8_first)], narrowed := true }
def PlaneThroughUptoSaid : Prop := planeThroughUptoRow.holds Tryz.pinned (OpenSpec.upto planeThroughSpec)

/-- 'culetlaw05.PlaneMeet', WHERE WHAT IT READS IS OF BULK AT MOST 1048576: true; the input reads as it did. -/
def planeMeetUptoRow : OpenClaim := { program := "ytcafjpldfnegiaagreatdoor", sum := "2925c19c20d3ba2b81ff19c38deeb9a9d32f14c8db1025ca28f569e6c4a9ad16", func := "culet/culetlaw05.PlaneMeet", spec := "planeMeet", inPlace := ["internal/bytealg.IndexByteString", "internal/bytealg.IndexString"], unfollowed := true, recurses := true, named := ["math/bits.overflowError", "unicode/utf8.first", "unicode/utf8.acceptRanges", "internal/bytealg.MaxLen"], apart := false, laid := [("unicode/utf8.acceptRanges", laid_unicode_utf8_acceptRanges), ("unicode/utf8.first", laid_unicode_utf8_first)], narrowed := true }
def PlaneMeetUptoSaid : Prop := planeMeetUptoRow.holds Tryz.pinned (OpenSpec.upto planeMeetSpec)

/-- 'culetlaw05.PlanePoints', WHERE WHAT IT READS IS OF BULK AT MOST 1048576: true; the input reads as it did. -/
def planePointsUptoRow : OpenClaim := { program := "ytcafjpldfnegiaagreatdoor", sum := "2925c19c20d3ba2b81ff19c38deeb9a9d32f14c8db1025ca28f569e6c4a9ad16", func := "culet/culetlaw05.PlanePoints", spec := "planePoints", inPlace := ["internal/bytealg.IndexByteString", "internal/bytealg.IndexString"], unfollowed := true, recurses := true, named := ["math/bits.overflowError", "unicode/utf8.first", "unicode/utf8.acceptRanges", "internal/bytealg.MaxLen"], apart := false, laid := [("unicode/utf8.acceptRanges", laid_unicode_utf8_acceptRanges), ("unicode/utf8.first", laid_unicode_utf8_first)], narrowed := true }
def PlanePointsUptoSaid : Prop := planePointsUptoRow.holds Tryz.pinned (OpenSpec.upto planePointsSpec)

/-- 'culetlaw05.PlaneMoved', WHERE WHAT IT READS IS OF BULK AT MOST 1048576: true; the input reads as it did. -/
def planeMovedUptoRow : OpenClaim := { program := "ytcafjpldfnegiaagreatdoor", sum := "2925c19c20d3ba2b81ff19c38deeb9a9d32f14c8db1025ca28f569e6c4a9ad16", func := "culet/culetlaw05.PlaneMoved", spec := "planeMoved", inPlace := ["internal/bytealg.IndexByteString", "internal/bytealg.IndexString"], unfollowed := true, recurses := true, named := ["math/bits.overflowError", "unicode/utf8.first", "unicode/utf8.acceptRanges", "internal/bytealg.MaxLen"], apart := false, laid := [("unicode/utf8.acceptRanges", laid_unicode_utf8_acceptRanges), ("unicode/utf8.first", laid_unicode_utf8_first)], narrowed := true }
def PlaneMovedUptoSaid : Prop := planeMovedUptoRow.holds Tryz.pinned (OpenSpec.upto planeMovedSpec)

/-- 'culetlaw05.PlaneChanges', WHERE WHAT IT READS IS OF BULK AT MOST 1048576: true; the input reads as it did. -/
def planeChangesUptoRow : OpenClaim := { program := "ytcafjpldfnegiaagreatdoor", sum := "2925c19c20d3ba2b81ff19c38deeb9a9d32f14c8db1025ca28f569e6c4a9ad16", func := "culet/culetlaw05.PlaneChanges", spec := "planeChanges", inPlace := ["internal/bytealg.IndexByteString", "internal/bytealg.IndexString"], unfollowed := true, recurses := true, named := ["math/bits.overflowError", "unicode/utf8.first", "unicode/utf8.acceptRanges", "internal/bytealg.MaxLen"], apart := false, laid := [("unicode/utf8.acceptRanges", laid_unicode_utf8_acceptRanges), ("unicode/utf8.first", laid_unicode_utf8_first)], narrowed := true }
def PlaneChangesUptoSaid : Prop := planeChangesUptoRow.holds Tryz.pinned (OpenSpec.upto planeChangesSpec)

/-- 'culetlaw52.CalibrateModel', WHERE WHAT IT READS IS OF BULK AT MOST 1048576: true; the input reads as it did. -/
def calibrateModelUptoRow : OpenClaim := { program := "ytcafjpldfnegiaagreatdoor", sum := "2925c19c20d3ba2b81ff19c38deeb9a9d32f14c8db1025ca28f569e6c4a9ad16", func := "culet/culetlaw52.CalibrateModel", spec := "calibrateModel", inPlace := ["internal/bytealg.IndexByteString", "internal/bytealg.IndexString"], unfollowed := true, recurses := true, named := ["unicode/utf8.first", "unicode/utf8.acceptRanges", "math/bits.overflowError", "internal/bytealg.MaxLen"], apart := false, laid := [("unicode/utf8.acceptRanges", laid_unicode_utf8_acceptRanges), ("unicode/utf8.first", laid_unicode_utf8_first)], narrowed := true }
def CalibrateModelUptoSaid : Prop := calibrateModelUptoRow.holds Tryz.pinned (OpenSpec.upto calibrateModelSpec)

end Rows
end Go.Proofs.YtcafjpldfnegiaaGreatDoor
