/- There are ranks just if Check has no ErrCycle: the law OrderAgrees answers true; condition: what is read is of bulk at most 1048576, and the listed variables hold what is listed (the card ties them to the text). -/
import Derived.Test.YtamokenjdmfgbaaGreatDoorMN
import Derived.Test.YtamokenjdmfgbaaGreatDoorML
namespace Go.Proofs.YtamokenjdmfgbaaGreatDoor.orderAgrees
open Go.ChangeShapes Go.WideShapes Go.ChangeAt Go.RowKit
set_option maxRecDepth 100000 in
theorem closed : joinedFacts Tryz.prog 5 Tryz.f5 (Rows.OpenSpec.upto Rows.orderAgreesSpec).bare Rows.orderAgreesUptoRow = true := by
  unfold joinedFacts
  simp only [Bool.and_eq_true]
  exact ⟨⟨⟨⟨⟨⟨⟨⟨⟨⟨⟨⟨⟨⟨⟨⟨⟨⟨⟨⟨⟨⟨⟨⟨⟨⟨⟨⟨⟨⟨⟨j1, j2⟩, j3⟩, j4⟩, j5⟩, j6⟩, j7⟩, j8⟩, j9⟩, j10⟩, j11⟩, j12⟩, j13⟩, j14⟩, j15⟩, j16⟩, j17⟩, j18⟩, j19⟩, j20⟩, j21⟩, j22⟩, j23⟩, j24⟩, j25⟩, j26⟩, j27⟩, j28⟩, j29⟩, j30⟩, j31⟩, j32⟩
theorem funcIs : Tryz.prog.funcNamed Rows.orderAgreesUptoRow.func = some 5 := by kernel_rfl
theorem said : Rows.OrderAgreesUptoSaid :=
  OpenClaim.holds_of_cond 5 Tryz.f5 rfl rfl rfl rfl rfl rfl rfl ⟨rfl, rfl, rfl, rfl, rfl⟩ rfl rfl rfl rfl rfl funcIs Tryz.func5 closed
    (of_decide_eq_true (by kernel_rfl)) (by unfold Func.isWrapper; first | (rw [if_pos (by decide +kernel)]; kernel_rfl) | (rw [if_neg (by decide +kernel)]; exact ⟨rfl, rfl⟩))
    (fun os started H enc _ F => by rw [OpenClaim.pre_eq_preRow]; exact lifted os started H enc F)

theorem plain (f : FuncId) (fn : Func) (hf : Tryz.pinned.checked.prog.funcNamed Rows.orderAgreesUptoRow.func = some f) (hfn : Tryz.pinned.checked.prog.funcs[f]? = some fn) :
    true = Tryz.pinned.checked.prog.looks [] ∧ ∀ (j : Nat) t, fn.params[j]? = some t → Tryz.pinned.checked.prog.wantsStandIn t = false := by
  obtain rfl : f = 5 := Option.some.inj (funcIs.symm.trans hf) |>.symm
  obtain rfl : fn = Tryz.f5 := (Option.some.inj (Tryz.func5.symm.trans hfn)).symm
  refine ⟨by kernel_rfl, fun j t ht => ?_⟩
  rw [Tryz.params5] at ht
  have hm : t ∈ [27] := by simpa using Array.mem_of_getElem? ht
  have hall : ([27].all fun u => !Tryz.prog.wantsStandIn u) = true := by kernel_rfl
  exact (show Tryz.prog.wantsStandIn t = false by simpa using List.all_eq_true.1 hall t hm)
theorem hw : Rows.orderAgreesUptoRow.wfByText (Rows.OpenSpec.upto Rows.orderAgreesSpec) = true := by kernel_rfl
theorem hm : Tryz.pinned.checked.prog.mainIs = some (Rows.orderAgreesUptoCard.stood.harness.1, Rows.orderAgreesUptoCard.stood.harness.2.toList) := by kernel_rfl
theorem hg : false = Rows.orderAgreesUptoRow.goesBy Tryz.pinned.checked.prog := by kernel_rfl
end Go.Proofs.YtamokenjdmfgbaaGreatDoor.orderAgrees
namespace Go.Proofs.YtamokenjdmfgbaaGreatDoor
theorem orderAgrees_holds : Rows.OrderAgreesUptoCardSaid :=
  Claim7.holds_tied_plain_at .later [] _ _ _ _ orderAgrees.said (fun _ h => by cases h) orderAgrees.hw (fun _ h => by cases h) orderAgreesUpto_row_tie rfl ⟨rfl, rfl⟩ orderAgrees.hm rfl orderAgrees.plain orderAgrees.hg
#print axioms orderAgrees_holds
end Go.Proofs.YtamokenjdmfgbaaGreatDoor
