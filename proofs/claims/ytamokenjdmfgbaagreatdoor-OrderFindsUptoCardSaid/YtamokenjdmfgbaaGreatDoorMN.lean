/- The facts of the row, one by one; no condition. -/
import Derived.Test.YtamokenjdmfgbaaGreatDoorRows
import Derived.JoinedCond
import Derived.Deep.DeepHandedRow
import Derived.Deep.DeepWitnessRowRef
import Derived.Shelf.Vars
import Derived.WalkKit
import Derived.ProofKit
import Derived.OpenShut
import Derived.ChangeOld
import Derived.Below
namespace Go.Proofs.YtamokenjdmfgbaaGreatDoor.orderFinds
open Go.ChangeShapes Go.WideShapes Go.ChangeAt Go.RowKit
theorem j1:Rows.orderFindsUptoRow.wf (OpenSpec.ofChange (Rows.OpenSpec.upto Rows.orderFindsSpec).bare)=true:=by kernel_rfl
theorem j2:laidOutB Tryz.prog=true:=by kernel_rfl
theorem j3:mapsRowed Tryz.prog=true:=by kernel_rfl
theorem j4:Tryz.f3.params.all (Tryz.prog.readableRec ·)=true:=by kernel_rfl
theorem j5:namedTie Tryz.prog Rows.orderFindsUptoRow.named (Rows.OpenSpec.upto Rows.orderFindsSpec).bare.vars=true:=by kernel_rfl
theorem j6:(Rows.orderFindsUptoRow.stops == [])=true:=by kernel_rfl
theorem j7:(Tryz.prog.stops == [])=true:=by kernel_rfl
theorem j8:(Rows.orderFindsUptoRow.knobs == [])=true:=by kernel_rfl
theorem j9:(Tryz.prog.stopKnobs == [])=true:=by kernel_rfl
theorem j10:(Rows.orderFindsUptoRow.inPlace == Tryz.prog.inPlace 3)=true:=by kernel_rfl
theorem j11:(Rows.orderFindsUptoRow.unfollowed == Tryz.prog.unfollowed 3)=true:=by kernel_rfl
theorem j12:(Rows.orderFindsUptoRow.recurses == Tryz.prog.recurses 3)=true:=by kernel_rfl
theorem j13:(Rows.orderFindsUptoRow.named == Tryz.prog.varsNamed 3)=true:=by kernel_rfl
theorem j14:(Rows.orderFindsUptoRow.maps == (Tryz.f3.params.toList++(Rows.OpenSpec.upto Rows.orderFindsSpec).bare.plain.varTypes Tryz.prog).any (Tryz.prog.mapsRec ·))=true:=by kernel_rfl
theorem j15:(Rows.orderFindsUptoRow.ifaces == (Tryz.f3.params.toList++(Rows.OpenSpec.upto Rows.orderFindsSpec).bare.plain.varTypes Tryz.prog).any (Tryz.prog.ifacesRec ·))=true:=by kernel_rfl
theorem j16:(Rows.orderFindsUptoRow.mapsOut == Tryz.prog.mapsAmong Tryz.f3.resultTypes.toList)=true:=by kernel_rfl
theorem j17:(Rows.orderFindsUptoRow.loops == (Tryz.f3.params.toList++(Rows.OpenSpec.upto Rows.orderFindsSpec).bare.plain.varTypes Tryz.prog).any (Tryz.prog.loopsFrom ·))=true:=by kernel_rfl
theorem j18:(Rows.orderFindsUptoRow.wideKeys == (Tryz.f3.params.toList++(Rows.OpenSpec.upto Rows.orderFindsSpec).bare.plain.varTypes Tryz.prog++Tryz.f3.resultTypes.toList).any (Tryz.prog.wideKeysFrom ·))=true:=by kernel_rfl
theorem j19:(Rows.OpenSpec.upto Rows.orderFindsSpec).bare.vars.all (Tryz.prog.varReadable ·)=true:=by kernel_rfl
theorem j20:Tryz.f3.resultTypes.all (fun t=>Tryz.prog.readableRec t && decide (t < Tryz.prog.types.size))=true:=by kernel_rfl
theorem j21:(Rows.orderFindsUptoRow.ifacesOut == Tryz.f3.resultTypes.toList.any (Tryz.prog.ifacesRec ·))=true:=by kernel_rfl
theorem j22:(Rows.orderFindsUptoRow.loopsOut == Tryz.f3.resultTypes.toList.any (Tryz.prog.loopsFrom ·))=true:=by kernel_rfl
theorem j23:(Rows.orderFindsUptoRow.plainKeys == Tryz.prog.plainKeys)=true:=by kernel_rfl
theorem j24:Rows.orderFindsUptoRow.shortTexts.isNone=true:=by kernel_rfl
theorem j25:Tryz.prog.stopsHeard=true:=by kernel_rfl
theorem j26:Tryz.prog.mayEnter=true:=by kernel_rfl
theorem j27:(Rows.orderFindsUptoRow.lifted == Tryz.prog.liftsFinal)=true:=by kernel_rfl
theorem j28:(Tryz.prog.make == some Rows.orderFindsUptoRow.make)=true:=by kernel_rfl
theorem j29:(Rows.orderFindsUptoRow.kinds == (if Rows.orderFindsUptoRow.domain.isEmpty then [] else Tryz.f3.params.toList.map fun t=>match Tryz.prog.underlying t with | some (.int k)=>some k | _=>none))=true:=by kernel_rfl
theorem j30:(Rows.orderFindsUptoRow.pinned == Rows.orderFindsUptoRow.pinnedBy)=true:=by kernel_rfl
theorem j31:(Rows.orderFindsUptoRow.veiled == (Tryz.f3.params.toList++(Rows.OpenSpec.upto Rows.orderFindsSpec).bare.plain.varTypes Tryz.prog++Tryz.f3.resultTypes.toList).any (Tryz.prog.veiledRec ·))=true:=by kernel_rfl
theorem j32:Rows.orderFindsUptoRow.veiledFits Tryz.prog Tryz.f3.params.toList (Tryz.f3.params.toList++(Rows.OpenSpec.upto Rows.orderFindsSpec).bare.plain.varTypes Tryz.prog++Tryz.f3.resultTypes.toList)=true:=by kernel_rfl
end Go.Proofs.YtamokenjdmfgbaaGreatDoor.orderFinds
