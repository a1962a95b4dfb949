/- The facts of the row, one by one; no condition. -/
import Derived.Test.YtamokenjdmfgbaaGreatDoorRows
import Derived.JoinedCond
import Derived.Deep.DeepHandedRow
import Derived.Deep.DeepWitnessRowRef
import Derived.Shelf.Vars
import Derived.WalkKit
import Derived.ProofKit
import Derived.OpenShut
import Derived.ChangeOld
import Derived.Below
namespace Go.Proofs.YtamokenjdmfgbaaGreatDoor.orderAgrees
open Go.ChangeShapes Go.WideShapes Go.ChangeAt Go.RowKit
theorem j1 : Rows.orderAgreesUptoRow.wf (OpenSpec.ofChange (Rows.OpenSpec.upto Rows.orderAgreesSpec).bare) = true := by kernel_rfl
theorem j2 : laidOutB Tryz.prog = true := by kernel_rfl
theorem j3 : mapsRowed Tryz.prog = true := by kernel_rfl
theorem j4 : Tryz.f5.params.all (Tryz.prog.readableRec ·) = true := by kernel_rfl
theorem j5 : namedTie Tryz.prog Rows.orderAgreesUptoRow.named (Rows.OpenSpec.upto Rows.orderAgreesSpec).bare.vars = true := by kernel_rfl
theorem j6 : (Rows.orderAgreesUptoRow.stops == []) = true := by kernel_rfl
theorem j7 : (Tryz.prog.stops == []) = true := by kernel_rfl
theorem j8 : (Rows.orderAgreesUptoRow.knobs == []) = true := by kernel_rfl
theorem j9 : (Tryz.prog.stopKnobs == []) = true := by kernel_rfl
theorem j10 : (Rows.orderAgreesUptoRow.inPlace == Tryz.prog.inPlace 5) = true := by kernel_rfl
theorem j11 : (Rows.orderAgreesUptoRow.unfollowed == Tryz.prog.unfollowed 5) = true := by kernel_rfl
theorem j12 : (Rows.orderAgreesUptoRow.recurses == Tryz.prog.recurses 5) = true := by kernel_rfl
theorem j13 : (Rows.orderAgreesUptoRow.named == Tryz.prog.varsNamed 5) = true := by kernel_rfl
theorem j14 : (Rows.orderAgreesUptoRow.maps == (Tryz.f5.params.toList ++ (Rows.OpenSpec.upto Rows.orderAgreesSpec).bare.plain.varTypes Tryz.prog).any (Tryz.prog.mapsRec ·)) = true := by kernel_rfl
theorem j15 : (Rows.orderAgreesUptoRow.ifaces == (Tryz.f5.params.toList ++ (Rows.OpenSpec.upto Rows.orderAgreesSpec).bare.plain.varTypes Tryz.prog).any (Tryz.prog.ifacesRec ·)) = true := by kernel_rfl
theorem j16 : (Rows.orderAgreesUptoRow.mapsOut == Tryz.prog.mapsAmong Tryz.f5.resultTypes.toList) = true := by kernel_rfl
theorem j17 : (Rows.orderAgreesUptoRow.loops == (Tryz.f5.params.toList ++ (Rows.OpenSpec.upto Rows.orderAgreesSpec).bare.plain.varTypes Tryz.prog).any (Tryz.prog.loopsFrom ·)) = true := by kernel_rfl
theorem j18 : (Rows.orderAgreesUptoRow.wideKeys == (Tryz.f5.params.toList ++ (Rows.OpenSpec.upto Rows.orderAgreesSpec).bare.plain.varTypes Tryz.prog ++ Tryz.f5.resultTypes.toList).any (Tryz.prog.wideKeysFrom ·)) = true := by kernel_rfl
theorem j19 : (Rows.OpenSpec.upto Rows.orderAgreesSpec).bare.vars.all (Tryz.prog.varReadable ·) = true := by kernel_rfl
theorem j20 : Tryz.f5.resultTypes.all (fun t => Tryz.prog.readableRec t && decide (t < Tryz.prog.types.size)) = true := by kernel_rfl
theorem j21 : (Rows.orderAgreesUptoRow.ifacesOut == Tryz.f5.resultTypes.toList.any (Tryz.prog.ifacesRec ·)) = true := by kernel_rfl
theorem j22 : (Rows.orderAgreesUptoRow.loopsOut == Tryz.f5.resultTypes.toList.any (Tryz.prog.loopsFrom ·)) = true := by kernel_rfl
theorem j23 : (Rows.orderAgreesUptoRow.plainKeys == Tryz.prog.plainKeys) = true := by kernel_rfl
theorem j24 : Rows.orderAgreesUptoRow.shortTexts.isNone = true := by kernel_rfl
theorem j25 : Tryz.prog.stopsHeard = true := by kernel_rfl
theorem j26 : Tryz.prog.mayEnter = true := by kernel_rfl
theorem j27 : (Rows.orderAgreesUptoRow.lifted == Tryz.prog.liftsFinal) = true := by kernel_rfl
theorem j28 : (Tryz.prog.make == some Rows.orderAgreesUptoRow.make) = true := by kernel_rfl
theorem j29 : (Rows.orderAgreesUptoRow.kinds == (if Rows.orderAgreesUptoRow.domain.isEmpty then [] else Tryz.f5.params.toList.map fun t => match Tryz.prog.underlying t with | some (.int k) => some k | _ => none)) = true := by kernel_rfl
theorem j30 : (Rows.orderAgreesUptoRow.pinned == Rows.orderAgreesUptoRow.pinnedBy) = true := by kernel_rfl
theorem j31 : (Rows.orderAgreesUptoRow.veiled == (Tryz.f5.params.toList ++ (Rows.OpenSpec.upto Rows.orderAgreesSpec).bare.plain.varTypes Tryz.prog ++ Tryz.f5.resultTypes.toList).any (Tryz.prog.veiledRec ·)) = true := by kernel_rfl
theorem j32 : Rows.orderAgreesUptoRow.veiledFits Tryz.prog Tryz.f5.params.toList (Tryz.f5.params.toList ++ (Rows.OpenSpec.upto Rows.orderAgreesSpec).bare.plain.varTypes Tryz.prog ++ Tryz.f5.resultTypes.toList) = true := by kernel_rfl
end Go.Proofs.YtamokenjdmfgbaaGreatDoor.orderAgrees
