/- The facts of the row, one by one; no condition. -/
import Derived.Test.YtamokenjdmfgbaaGreatDoorML
namespace Go.Proofs.YtamokenjdmfgbaaGreatDoor.orderRanks
open Go.ChangeShapes Go.WideShapes Go.ChangeAt Go.RowKit
theorem j1 : Rows.orderRanksUptoRow.wf (OpenSpec.ofChange (Rows.OpenSpec.upto Rows.orderRanksSpec).bare) = true := by kernel_rfl
theorem j2 : laidOutB Tryz.prog = true := by kernel_rfl
theorem j3 : mapsRowed Tryz.prog = true := by kernel_rfl
theorem j4 : Tryz.f4.params.all (Tryz.prog.readableRec ·) = true := by kernel_rfl
theorem j5 : namedTie Tryz.prog Rows.orderRanksUptoRow.named (Rows.OpenSpec.upto Rows.orderRanksSpec).bare.vars = true := by kernel_rfl
theorem j6 : (Rows.orderRanksUptoRow.stops == []) = true := by kernel_rfl
theorem j7 : (Tryz.prog.stops == []) = true := by kernel_rfl
theorem j8 : (Rows.orderRanksUptoRow.knobs == []) = true := by kernel_rfl
theorem j9 : (Tryz.prog.stopKnobs == []) = true := by kernel_rfl
theorem j10 : (Rows.orderRanksUptoRow.inPlace == Tryz.prog.inPlace 4) = true := by kernel_rfl
theorem j11 : (Rows.orderRanksUptoRow.unfollowed == Tryz.prog.unfollowed 4) = true := by kernel_rfl
theorem j12 : (Rows.orderRanksUptoRow.recurses == Tryz.prog.recurses 4) = true := by kernel_rfl
theorem j13 : (Rows.orderRanksUptoRow.named == Tryz.prog.varsNamed 4) = true := by kernel_rfl
theorem j14 : (Rows.orderRanksUptoRow.maps == (Tryz.f4.params.toList ++ (Rows.OpenSpec.upto Rows.orderRanksSpec).bare.plain.varTypes Tryz.prog).any (Tryz.prog.mapsRec ·)) = true := by kernel_rfl
theorem j15 : (Rows.orderRanksUptoRow.ifaces == (Tryz.f4.params.toList ++ (Rows.OpenSpec.upto Rows.orderRanksSpec).bare.plain.varTypes Tryz.prog).any (Tryz.prog.ifacesRec ·)) = true := by kernel_rfl
theorem j16 : (Rows.orderRanksUptoRow.mapsOut == Tryz.prog.mapsAmong Tryz.f4.resultTypes.toList) = true := by kernel_rfl
theorem j17 : (Rows.orderRanksUptoRow.loops == (Tryz.f4.params.toList ++ (Rows.OpenSpec.upto Rows.orderRanksSpec).bare.plain.varTypes Tryz.prog).any (Tryz.prog.loopsFrom ·)) = true := by kernel_rfl
theorem j18 : (Rows.orderRanksUptoRow.wideKeys == (Tryz.f4.params.toList ++ (Rows.OpenSpec.upto Rows.orderRanksSpec).bare.plain.varTypes Tryz.prog ++ Tryz.f4.resultTypes.toList).any (Tryz.prog.wideKeysFrom ·)) = true := by kernel_rfl
theorem j19 : (Rows.OpenSpec.upto Rows.orderRanksSpec).bare.vars.all (Tryz.prog.varReadable ·) = true := by kernel_rfl
theorem j20 : Tryz.f4.resultTypes.all (fun t => Tryz.prog.readableRec t && decide (t < Tryz.prog.types.size)) = true := by kernel_rfl
theorem j21 : (Rows.orderRanksUptoRow.ifacesOut == Tryz.f4.resultTypes.toList.any (Tryz.prog.ifacesRec ·)) = true := by kernel_rfl
theorem j22 : (Rows.orderRanksUptoRow.loopsOut == Tryz.f4.resultTypes.toList.any (Tryz.prog.loopsFrom ·)) = true := by kernel_rfl
theorem j23 : (Rows.orderRanksUptoRow.plainKeys == Tryz.prog.plainKeys) = true := by kernel_rfl
theorem j24 : Rows.orderRanksUptoRow.shortTexts.isNone = true := by kernel_rfl
theorem j25 : Tryz.prog.stopsHeard = true := by kernel_rfl
theorem j26 : Tryz.prog.mayEnter = true := by kernel_rfl
theorem j27 : (Rows.orderRanksUptoRow.lifted == Tryz.prog.liftsFinal) = true := by kernel_rfl
theorem j28 : (Tryz.prog.make == some Rows.orderRanksUptoRow.make) = true := by kernel_rfl
theorem j29 : (Rows.orderRanksUptoRow.kinds == (if Rows.orderRanksUptoRow.domain.isEmpty then [] else Tryz.f4.params.toList.map fun t => match Tryz.prog.underlying t with | some (.int k) => some k | _ => none)) = true := by kernel_rfl
theorem j30 : (Rows.orderRanksUptoRow.pinned == Rows.orderRanksUptoRow.pinnedBy) = true := by kernel_rfl
theorem j31 : (Rows.orderRanksUptoRow.veiled == (Tryz.f4.params.toList ++ (Rows.OpenSpec.upto Rows.orderRanksSpec).bare.plain.varTypes Tryz.prog ++ Tryz.f4.resultTypes.toList).any (Tryz.prog.veiledRec ·)) = true := by kernel_rfl
theorem j32 : Rows.orderRanksUptoRow.veiledFits Tryz.prog Tryz.f4.params.toList (Tryz.f4.params.toList ++ (Rows.OpenSpec.upto Rows.orderRanksSpec).bare.plain.varTypes Tryz.prog ++ Tryz.f4.resultTypes.toList) = true := by kernel_rfl
end Go.Proofs.YtamokenjdmfgbaaGreatDoor.orderRanks
