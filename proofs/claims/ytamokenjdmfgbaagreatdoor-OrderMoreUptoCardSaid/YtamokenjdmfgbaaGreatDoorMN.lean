/- The facts of the row, one by one; no condition. -/
import Derived.Test.YtamokenjdmfgbaaGreatDoorRows
import Derived.JoinedCond
import Derived.Deep.DeepHandedRow
import Derived.Deep.DeepWitnessRowRef
import Derived.Shelf.Vars
import Derived.WalkKit
import Derived.ProofKit
import Derived.OpenShut
import Derived.ChangeOld
import Derived.Below
namespace Go.Proofs.YtamokenjdmfgbaaGreatDoor.orderMore
open Go.ChangeShapes Go.WideShapes Go.ChangeAt Go.RowKit
theorem j1 : Rows.orderMoreUptoRow.wf (OpenSpec.ofChange (Rows.OpenSpec.upto Rows.orderMoreSpec).bare) = true := by kernel_rfl
theorem j2 : laidOutB Tryz.prog = true := by kernel_rfl
theorem j3 : mapsRowed Tryz.prog = true := by kernel_rfl
theorem j4 : Tryz.f6.params.all (Tryz.prog.readableRec ·) = true := by kernel_rfl
theorem j5 : namedTie Tryz.prog Rows.orderMoreUptoRow.named (Rows.OpenSpec.upto Rows.orderMoreSpec).bare.vars = true := by kernel_rfl
theorem j6 : (Rows.orderMoreUptoRow.stops == []) = true := by kernel_rfl
theorem j7 : (Tryz.prog.stops == []) = true := by kernel_rfl
theorem j8 : (Rows.orderMoreUptoRow.knobs == []) = true := by kernel_rfl
theorem j9 : (Tryz.prog.stopKnobs == []) = true := by kernel_rfl
theorem j10 : (Rows.orderMoreUptoRow.inPlace == Tryz.prog.inPlace 6) = true := by kernel_rfl
theorem j11 : (Rows.orderMoreUptoRow.unfollowed == Tryz.prog.unfollowed 6) = true := by kernel_rfl
theorem j12 : (Rows.orderMoreUptoRow.recurses == Tryz.prog.recurses 6) = true := by kernel_rfl
theorem j13 : (Rows.orderMoreUptoRow.named == Tryz.prog.varsNamed 6) = true := by kernel_rfl
theorem j14 : (Rows.orderMoreUptoRow.maps == (Tryz.f6.params.toList ++ (Rows.OpenSpec.upto Rows.orderMoreSpec).bare.plain.varTypes Tryz.prog).any (Tryz.prog.mapsRec ·)) = true := by kernel_rfl
theorem j15 : (Rows.orderMoreUptoRow.ifaces == (Tryz.f6.params.toList ++ (Rows.OpenSpec.upto Rows.orderMoreSpec).bare.plain.varTypes Tryz.prog).any (Tryz.prog.ifacesRec ·)) = true := by kernel_rfl
theorem j16 : (Rows.orderMoreUptoRow.mapsOut == Tryz.prog.mapsAmong Tryz.f6.resultTypes.toList) = true := by kernel_rfl
theorem j17 : (Rows.orderMoreUptoRow.loops == (Tryz.f6.params.toList ++ (Rows.OpenSpec.upto Rows.orderMoreSpec).bare.plain.varTypes Tryz.prog).any (Tryz.prog.loopsFrom ·)) = true := by kernel_rfl
theorem j18 : (Rows.orderMoreUptoRow.wideKeys == (Tryz.f6.params.toList ++ (Rows.OpenSpec.upto Rows.orderMoreSpec).bare.plain.varTypes Tryz.prog ++ Tryz.f6.resultTypes.toList).any (Tryz.prog.wideKeysFrom ·)) = true := by kernel_rfl
theorem j19 : (Rows.OpenSpec.upto Rows.orderMoreSpec).bare.vars.all (Tryz.prog.varReadable ·) = true := by kernel_rfl
theorem j20 : Tryz.f6.resultTypes.all (fun t => Tryz.prog.readableRec t && decide (t < Tryz.prog.types.size)) = true := by kernel_rfl
theorem j21 : (Rows.orderMoreUptoRow.ifacesOut == Tryz.f6.resultTypes.toList.any (Tryz.prog.ifacesRec ·)) = true := by kernel_rfl
theorem j22 : (Rows.orderMoreUptoRow.loopsOut == Tryz.f6.resultTypes.toList.any (Tryz.prog.loopsFrom ·)) = true := by kernel_rfl
theorem j23 : (Rows.orderMoreUptoRow.plainKeys == Tryz.prog.plainKeys) = true := by kernel_rfl
theorem j24 : Rows.orderMoreUptoRow.shortTexts.isNone = true := by kernel_rfl
theorem j25 : Tryz.prog.stopsHeard = true := by kernel_rfl
theorem j26 : Tryz.prog.mayEnter = true := by kernel_rfl
theorem j27 : (Rows.orderMoreUptoRow.lifted == Tryz.prog.liftsFinal) = true := by kernel_rfl
theorem j28 : (Tryz.prog.make == some Rows.orderMoreUptoRow.make) = true := by kernel_rfl
theorem j29 : (Rows.orderMoreUptoRow.kinds == (if Rows.orderMoreUptoRow.domain.isEmpty then [] else Tryz.f6.params.toList.map fun t => match Tryz.prog.underlying t with | some (.int k) => some k | _ => none)) = true := by kernel_rfl
theorem j30 : (Rows.orderMoreUptoRow.pinned == Rows.orderMoreUptoRow.pinnedBy) = true := by kernel_rfl
theorem j31 : (Rows.orderMoreUptoRow.veiled == (Tryz.f6.params.toList ++ (Rows.OpenSpec.upto Rows.orderMoreSpec).bare.plain.varTypes Tryz.prog ++ Tryz.f6.resultTypes.toList).any (Tryz.prog.veiledRec ·)) = true := by kernel_rfl
theorem j32 : Rows.orderMoreUptoRow.veiledFits Tryz.prog Tryz.f6.params.toList (Tryz.f6.params.toList ++ (Rows.OpenSpec.upto Rows.orderMoreSpec).bare.plain.varTypes Tryz.prog ++ Tryz.f6.resultTypes.toList) = true := by kernel_rfl
end Go.Proofs.YtamokenjdmfgbaaGreatDoor.orderMore
