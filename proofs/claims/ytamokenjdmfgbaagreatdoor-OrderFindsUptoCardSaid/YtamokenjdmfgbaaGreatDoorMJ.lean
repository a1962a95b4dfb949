/- The law asks of a fixed text whether it is accepted: the rest of the run; no condition. -/
import Derived.Test.YtamokenjdmfgbaaGreatDoorME
import Derived.Test.YtamokenjdmfgbaaGreatDoorMI
namespace Go.Am
open Go.Proofs Go.RowKit
set_option maxRecDepth 100000
noncomputable def code20b:Code:=match Tryz.f10.body with | some c=>c | none=>.skip
def isTrue (r:Option (Value×AH)):Bool:=match r with | some (.bool b,_)=>b | _=>false
theorem isTrue_some {r:Option (Value×AH)} (h:isTrue r=true):∃ H,r=some (.bool true,H):=by
 unfold isTrue at h
 split at h
 ·next b H=>subst h; exact ⟨H,rfl⟩
 ·cases h
theorem post20:isTrue (amPost tab (xS tab 2000 199) 2000 Tryz.f10 (yg tab (xS tab 2000 199) 2000 ⟨Tryz.f10.ntmps,false⟩ (restN 5 code20b) cutA5 cutH5))=true:=by kernel_rfl
end Go.Am
