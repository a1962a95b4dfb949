/- Find and Check answer what the document says: the law OrderFinds answers true; condition: what is read is of bulk at most 1048576, and the listed variables hold what is listed (the card ties them to the text). -/
import Derived.Test.YtamokenjdmfgbaaGreatDoorMN
import Derived.Test.YtamokenjdmfgbaaGreatDoorML
namespace Go.Proofs.YtamokenjdmfgbaaGreatDoor.orderFinds
open Go.ChangeShapes Go.WideShapes Go.ChangeAt Go.RowKit
set_option maxRecDepth 100000 in
theorem closed:joinedFacts Tryz.prog 3 Tryz.f3 (Rows.OpenSpec.upto Rows.orderFindsSpec).bare Rows.orderFindsUptoRow=true:=by
 unfold joinedFacts
 simp only [Bool.and_eq_true]
 exact ⟨⟨⟨⟨⟨⟨⟨⟨⟨⟨⟨⟨⟨⟨⟨⟨⟨⟨⟨⟨⟨⟨⟨⟨⟨⟨⟨⟨⟨⟨⟨j1,j2⟩,j3⟩,j4⟩,j5⟩,j6⟩,j7⟩,j8⟩,j9⟩,j10⟩,j11⟩,j12⟩,j13⟩,j14⟩,j15⟩,j16⟩,j17⟩,j18⟩,j19⟩,j20⟩,j21⟩,j22⟩,j23⟩,j24⟩,j25⟩,j26⟩,j27⟩,j28⟩,j29⟩,j30⟩,j31⟩,j32⟩
theorem funcIs:Tryz.prog.funcNamed Rows.orderFindsUptoRow.func=some 3:=by kernel_rfl
theorem said:Rows.OrderFindsUptoSaid :=
 OpenClaim.holds_of_cond 3 Tryz.f3 rfl rfl rfl rfl rfl rfl rfl ⟨rfl,rfl,rfl,rfl,rfl⟩ rfl rfl rfl rfl rfl funcIs Tryz.func3 closed
  (of_decide_eq_true (by kernel_rfl)) (by unfold Func.isWrapper; first | (rw [if_pos (by decide +kernel)]; kernel_rfl) | (rw [if_neg (by decide +kernel)]; exact ⟨rfl,rfl⟩))
  (fun os started H enc _ F=>by rw [OpenClaim.pre_eq_preRow]; exact lifted os started H enc F)
theorem plain (f:FuncId) (fn:Func) (hf:Tryz.pinned.checked.prog.funcNamed Rows.orderFindsUptoRow.func=some f) (hfn:Tryz.pinned.checked.prog.funcs[f]?=some fn) :
  true=Tryz.pinned.checked.prog.looks []∧∀ (j:Nat) t,fn.params[j]?=some t→Tryz.pinned.checked.prog.wantsStandIn t=false:=by
 obtain rfl:f=3:=Option.some.inj (funcIs.symm.trans hf) |>.symm
 obtain rfl:fn=Tryz.f3:=(Option.some.inj (Tryz.func3.symm.trans hfn)).symm
 refine ⟨by kernel_rfl,fun j t ht=>?_⟩
 rw [Tryz.params3] at ht
 have hm:t∈[27]:=by simpa using Array.mem_of_getElem? ht
 have hall:([27].all fun u=>!Tryz.prog.wantsStandIn u)=true:=by kernel_rfl
 exact (show Tryz.prog.wantsStandIn t=false by simpa using List.all_eq_true.1 hall t hm)
theorem hw:Rows.orderFindsUptoRow.wfByText (Rows.OpenSpec.upto Rows.orderFindsSpec)=true:=by kernel_rfl
theorem hm:Tryz.pinned.checked.prog.mainIs=some (Rows.orderFindsUptoCard.stood.harness.1,Rows.orderFindsUptoCard.stood.harness.2.toList):=by kernel_rfl
theorem hg:false=Rows.orderFindsUptoRow.goesBy Tryz.pinned.checked.prog:=by kernel_rfl
end Go.Proofs.YtamokenjdmfgbaaGreatDoor.orderFinds
namespace Go.Proofs.YtamokenjdmfgbaaGreatDoor
theorem orderFinds_holds:Rows.OrderFindsUptoCardSaid :=
 Claim7.holds_tied_plain_at .later [] _ _ _ _ orderFinds.said (fun _ h=>by cases h) orderFinds.hw (fun _ h=>by cases h) orderFindsUpto_row_tie rfl ⟨rfl,rfl⟩ orderFinds.hm rfl orderFinds.plain orderFinds.hg
#print axioms orderFinds_holds
end Go.Proofs.YtamokenjdmfgbaaGreatDoor
