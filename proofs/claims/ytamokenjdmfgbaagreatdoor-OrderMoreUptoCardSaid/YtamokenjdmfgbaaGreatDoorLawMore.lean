/- With another thread no edge goes, and nothing that is wrong: the law OrderMore answers true; condition: what is read is of bulk at most 1048576, and the listed variables hold what is listed (the card ties them to the text). -/
import Derived.Test.YtamokenjdmfgbaaGreatDoorMN
import Derived.Test.YtamokenjdmfgbaaGreatDoorML
namespace Go.Proofs.YtamokenjdmfgbaaGreatDoor.orderMore
open Go.ChangeShapes Go.WideShapes Go.ChangeAt Go.RowKit
set_option maxRecDepth 100000 in
theorem closed : joinedFacts Tryz.prog 6 Tryz.f6 (Rows.OpenSpec.upto Rows.orderMoreSpec).bare Rows.orderMoreUptoRow = true := by
  unfold joinedFacts
  simp only [Bool.and_eq_true]
  exact ⟨⟨⟨⟨⟨⟨⟨⟨⟨⟨⟨⟨⟨⟨⟨⟨⟨⟨⟨⟨⟨⟨⟨⟨⟨⟨⟨⟨⟨⟨⟨j1, j2⟩, j3⟩, j4⟩, j5⟩, j6⟩, j7⟩, j8⟩, j9⟩, j10⟩, j11⟩, j12⟩, j13⟩, j14⟩, j15⟩, j16⟩, j17⟩, j18⟩, j19⟩, j20⟩, j21⟩, j22⟩, j23⟩, j24⟩, j25⟩, j26⟩, j27⟩, j28⟩, j29⟩, j30⟩, j31⟩, j32⟩
theorem funcIs : Tryz.prog.funcNamed Rows.orderMoreUptoRow.func = some 6 := by kernel_rfl
theorem said : Rows.OrderMoreUptoSaid :=
  OpenClaim.holds_of_cond 6 Tryz.f6 rfl rfl rfl rfl rfl rfl rfl ⟨rfl, rfl, rfl, rfl, rfl⟩ rfl rfl rfl rfl rfl funcIs Tryz.func6 closed
    (of_decide_eq_true (by kernel_rfl)) (by unfold Func.isWrapper; first | (rw [if_pos (by decide +kernel)]; kernel_rfl) | (rw [if_neg (by decide +kernel)]; exact ⟨rfl, rfl⟩))
    (fun os started H enc _ F => by rw [OpenClaim.pre_eq_preRow]; exact lifted os started H enc F)

theorem plain (f : FuncId) (fn : Func) (hf : Tryz.pinned.checked.prog.funcNamed Rows.orderMoreUptoRow.func = some f) (hfn : Tryz.pinned.checked.prog.funcs[f]? = some fn) :
    true = Tryz.pinned.checked.prog.looks [] ∧ ∀ (j : Nat) t, fn.params[j]? = some t → Tryz.pinned.checked.prog.wantsStandIn t = false := by
  obtain rfl : f = 6 := Option.some.inj (funcIs.symm.trans hf) |>.symm
  obtain rfl : fn = Tryz.f6 := (Option.some.inj (Tryz.func6.symm.trans hfn)).symm
  refine ⟨by kernel_rfl, fun j t ht => ?_⟩
  rw [Tryz.params6] at ht
  have hm : t ∈ [27, 3] := by simpa using Array.mem_of_getElem? ht
  have hall : ([27, 3].all fun u => !Tryz.prog.wantsStandIn u) = true := by kernel_rfl
  exact (show Tryz.prog.wantsStandIn t = false by simpa using List.all_eq_true.1 hall t hm)
theorem hw : Rows.orderMoreUptoRow.wfByText (Rows.OpenSpec.upto Rows.orderMoreSpec) = true := by kernel_rfl
theorem hm : Tryz.pinned.checked.prog.mainIs = some (Rows.orderMoreUptoCard.stood.harness.1, Rows.orderMoreUptoCard.stood.harness.2.toList) := by kernel_rfl
theorem hg : false = Rows.orderMoreUptoRow.goesBy Tryz.pinned.checked.prog := by kernel_rfl
end Go.Proofs.YtamokenjdmfgbaaGreatDoor.orderMore
namespace Go.Proofs.YtamokenjdmfgbaaGreatDoor
theorem orderMore_holds : Rows.OrderMoreUptoCardSaid :=
  Claim7.holds_tied_plain_at .later [] _ _ _ _ orderMore.said (fun _ h => by cases h) orderMore.hw (fun _ h => by cases h) orderMoreUpto_row_tie rfl ⟨rfl, rfl⟩ orderMore.hm rfl orderMore.plain orderMore.hg
#print axioms orderMore_holds
end Go.Proofs.YtamokenjdmfgbaaGreatDoor
