/- Find answers the sets of the document, or ErrCode where the code is not right, and the code is left as it was: the law HeldFinds answers true; condition: what is read is of bulk at most 1048576, and the listed variables hold what is listed (the card ties them to the text). -/
import Derived.Test.YtpppjcjdfhpepaaGreatDoorMW
namespace Go.Proofs.YtpppjcjdfhpepaaGreatDoor.heldFinds
open Go.ChangeShapes Go.WideShapes Go.ChangeAt Go.RowKit

theorem said : Rows.HeldFindsUptoSaid :=
  OpenClaim.holds_of_cond 3 Tryz.f3 rfl rfl rfl rfl rfl rfl rfl ⟨rfl, rfl, rfl, rfl, rfl⟩ rfl rfl rfl rfl rfl (by kernel_rfl) Tryz.func3 (by kernel_rfl)
    (of_decide_eq_true (by kernel_rfl)) (by unfold Func.isWrapper; first | (rw [if_pos (by decide +kernel)]; kernel_rfl) | (rw [if_neg (by decide +kernel)]; exact ⟨rfl, rfl⟩))
    (fun os started H enc _ F => by rw [OpenClaim.pre_eq_preRow]; exact lifted os started H enc F)

theorem plain (f : FuncId) (fn : Func) (hf : Tryz.pinned.checked.prog.funcNamed Rows.heldFindsUptoRow.func = some f) (hfn : Tryz.pinned.checked.prog.funcs[f]? = some fn) :
    true = Tryz.pinned.checked.prog.looks [] ∧ ∀ (j : Nat) t, fn.params[j]? = some t → Tryz.pinned.checked.prog.wantsStandIn t = false := by
  obtain rfl : f = 3 := Option.some.inj ((show Tryz.prog.funcNamed Rows.heldFindsUptoRow.func = some 3 by kernel_rfl).symm.trans hf) |>.symm
  obtain rfl : fn = Tryz.f3 := (Option.some.inj (Tryz.func3.symm.trans hfn)).symm
  refine ⟨by kernel_rfl, fun j t ht => ?_⟩
  rw [Tryz.params3] at ht
  obtain rfl : t = 27 := by simpa using Array.mem_of_getElem? ht
  exact (show Tryz.prog.wantsStandIn 27 = false by kernel_rfl)
end Go.Proofs.YtpppjcjdfhpepaaGreatDoor.heldFinds
namespace Go.Proofs.YtpppjcjdfhpepaaGreatDoor
theorem heldFinds_holds : Rows.HeldFindsUptoCardSaid :=
  Claim7.holds_tied_plain_at .later [] _ _ _ _ heldFinds.said (fun _ h => by cases h) (by kernel_rfl) (fun _ h => by cases h) heldFindsUpto_row_tie rfl ⟨rfl, rfl⟩ (by kernel_rfl) rfl heldFinds.plain (by kernel_rfl)
#print axioms heldFinds_holds
end Go.Proofs.YtpppjcjdfhpepaaGreatDoor
