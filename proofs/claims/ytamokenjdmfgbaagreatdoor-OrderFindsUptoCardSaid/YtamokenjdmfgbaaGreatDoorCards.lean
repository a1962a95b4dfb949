/-
  DERIVED. GIVEN WITH THE SEED: THE CARDS: each row of YtamokenjdmfgbaaGreatDoorRows.lean that lists a variable, with what it lists TIED to the program's text (the seventh form; the later family's looks); each row that meets fmt, with fmt's text TOLD by the authors' own Lean function (tested against real Go, not proved from fmt's source: count such statements apart). THE CARD IS WHAT COUNTS. Prove the row's statement (the work); the ties are given (YtamokenjdmfgbaaGreatDoorTie.lean); close each card by the builder's one call (the guide's Derived/Test/ToyasCard.lean, 'card_holds'). Laid BY PROGRAM, IN A SANDBOX (cutbox-door.mjs). By AI agents, Wed Nov 11 2026. No macro, syntax, notation, axiom, sorry.
-/
import Derived.Test.YtamokenjdmfgbaaGreatDoorRows
import GoSem.ClaimSeven
namespace Go.Proofs.YtamokenjdmfgbaaGreatDoor
namespace Rows

/-- THE TIED CARD OF 'portcullislaw20.OrderFinds'. -/
def orderFindsCard : Claim7 := { stood := { row := orderFindsRow, standIns := [], harness := (true, "214112a031b98e1fb6b99ff796cfd6bc702be7f6a3c73cc2b38f92d7ecbb08c6"), looks := true }, kinds := [], alts := [], laidByText := true, laidKinds := [.data, .data, .data, .data, .sentinel, .sentinel, .pinned], laidTests := true, laidLooks := .later }
def OrderFindsCardSaid : Prop := Claim7.holds Tryz.pinned (.plain (OpenSpec.ofChange orderFindsSpec)) orderFindsCard

/-- THE TIED CARD OF 'portcullislaw20.OrderRanks'. -/
def orderRanksCard : Claim7 := { stood := { row := orderRanksRow, standIns := [], harness := (true, "214112a031b98e1fb6b99ff796cfd6bc702be7f6a3c73cc2b38f92d7ecbb08c6"), looks := true }, kinds := [], alts := [], laidByText := true, laidKinds := [.data, .data, .data, .data, .sentinel, .sentinel, .pinned], laidTests := true, laidLooks := .later }
def OrderRanksCardSaid : Prop := Claim7.holds Tryz.pinned (.plain (OpenSpec.ofChange orderRanksSpec)) orderRanksCard

/-- THE TIED CARD OF 'portcullislaw20.OrderAgrees'. -/
def orderAgreesCard : Claim7 := { stood := { row := orderAgreesRow, standIns := [], harness := (true, "214112a031b98e1fb6b99ff796cfd6bc702be7f6a3c73cc2b38f92d7ecbb08c6"), looks := true }, kinds := [], alts := [], laidByText := true, laidKinds := [.data, .data, .data, .data, .sentinel, .sentinel, .pinned], laidTests := true, laidLooks := .later }
def OrderAgreesCardSaid : Prop := Claim7.holds Tryz.pinned (.plain (OpenSpec.ofChange orderAgreesSpec)) orderAgreesCard

/-- THE TIED CARD OF 'portcullislaw20.OrderMore'. -/
def orderMoreCard : Claim7 := { stood := { row := orderMoreRow, standIns := [], harness := (true, "214112a031b98e1fb6b99ff796cfd6bc702be7f6a3c73cc2b38f92d7ecbb08c6"), looks := true }, kinds := [], alts := [], laidByText := true, laidKinds := [.data, .data, .data, .data, .sentinel, .sentinel, .pinned], laidTests := true, laidLooks := .later }
def OrderMoreCardSaid : Prop := Claim7.holds Tryz.pinned (.plain (OpenSpec.ofChange orderMoreSpec)) orderMoreCard

/-- THE TIED CARD OF 'portcullislaw17.PointsFinds'. -/
def pointsFindsCard : Claim7 := { stood := { row := pointsFindsRow, standIns := [], harness := (true, "214112a031b98e1fb6b99ff796cfd6bc702be7f6a3c73cc2b38f92d7ecbb08c6"), looks := true }, kinds := [], alts := [], laidByText := true, laidKinds := [.data, .data, .data, .data, .sentinel, .sentinel, .pinned], laidTests := true, laidLooks := .later }
def PointsFindsCardSaid : Prop := Claim7.holds Tryz.pinned (.plain (OpenSpec.ofChange pointsFindsSpec)) pointsFindsCard

/-- THE TIED CARD OF 'portcullislaw17.PointsMore'. -/
def pointsMoreCard : Claim7 := { stood := { row := pointsMoreRow, standIns := [], harness := (true, "214112a031b98e1fb6b99ff796cfd6bc702be7f6a3c73cc2b38f92d7ecbb08c6"), looks := true }, kinds := [], alts := [], laidByText := true, laidKinds := [.data, .data, .data, .data, .sentinel, .sentinel, .pinned], laidTests := true, laidLooks := .later }
def PointsMoreCardSaid : Prop := Claim7.holds Tryz.pinned (.plain (OpenSpec.ofChange pointsMoreSpec)) pointsMoreCard

/-- THE TIED CARD OF 'portcullislaw17.PointsRise'. -/
def pointsRiseCard : Claim7 := { stood := { row := pointsRiseRow, standIns := [], harness := (true, "214112a031b98e1fb6b99ff796cfd6bc702be7f6a3c73cc2b38f92d7ecbb08c6"), looks := true }, kinds := [], alts := [], laidByText := true, laidKinds := [.data, .data, .data, .data, .sentinel, .sentinel, .pinned], laidTests := true, laidLooks := .later }
def PointsRiseCardSaid : Prop := Claim7.holds Tryz.pinned (.plain (OpenSpec.ofChange pointsRiseSpec)) pointsRiseCard

/-- THE SECOND FORM's CARD OF 'portcullislaw20.OrderFinds'. -/
def orderFindsUptoCard : Claim7 := { stood := { row := orderFindsUptoRow, standIns := [], harness := (true, "214112a031b98e1fb6b99ff796cfd6bc702be7f6a3c73cc2b38f92d7ecbb08c6"), looks := true }, kinds := [], alts := [], laidByText := true, laidKinds := [.data, .data, .data, .data, .sentinel, .sentinel, .pinned], laidTests := true, laidLooks := .later }
def OrderFindsUptoCardSaid : Prop := Claim7.holds Tryz.pinned (.plain (OpenSpec.upto orderFindsSpec)) orderFindsUptoCard

/-- THE SECOND FORM's CARD OF 'portcullislaw20.OrderRanks'. -/
def orderRanksUptoCard : Claim7 := { stood := { row := orderRanksUptoRow, standIns := [], harness := (true, "214112a031b98e1fb6b99ff796cfd6bc702be7f6a3c73cc2b38f92d7ecbb08c6"), looks := true }, kinds := [], alts := [], laidByText := true, laidKinds := [.data, .data, .data, .data, .sentinel, .sentinel, .pinned], laidTests := true, laidLooks := .later }
def OrderRanksUptoCardSaid : Prop := Claim7.holds Tryz.pinned (.plain (OpenSpec.upto orderRanksSpec)) orderRanksUptoCard

/-- THE SECOND FORM's CARD OF 'portcullislaw20.OrderAgrees'. -/
def orderAgreesUptoCard : Claim7 := { stood := { row := orderAgreesUptoRow, standIns := [], harness := (true, "214112a031b98e1fb6b99ff796cfd6bc702be7f6a3c73cc2b38f92d7ecbb08c6"), looks := true }, kinds := [], alts := [], laidByText := true, laidKinds := [.data, .data, .data, .data, .sentinel, .sentinel, .pinned], laidTests := true, laidLooks := .later }
def OrderAgreesUptoCardSaid : Prop := Claim7.holds Tryz.pinned (.plain (OpenSpec.upto orderAgreesSpec)) orderAgreesUptoCard

/-- THE SECOND FORM's CARD OF 'portcullislaw20.OrderMore'. -/
def orderMoreUptoCard : Claim7 := { stood := { row := orderMoreUptoRow, standIns := [], harness := (true, "214112a031b98e1fb6b99ff796cfd6bc702be7f6a3c73cc2b38f92d7ecbb08c6"), looks := true }, kinds := [], alts := [], laidByText := true, laidKinds := [.data, .data, .data, .data, .sentinel, .sentinel, .pinned], laidTests := true, laidLooks := .later }
def OrderMoreUptoCardSaid : Prop := Claim7.holds Tryz.pinned (.plain (OpenSpec.upto orderMoreSpec)) orderMoreUptoCard

/-- THE SECOND FORM's CARD OF 'portcullislaw17.PointsFinds'. -/
def pointsFindsUptoCard : Claim7 := { stood := { row := pointsFindsUptoRow, standIns := [], harness := (true, "214112a031b98e1fb6b99ff796cfd6bc702be7f6a3c73cc2b38f92d7ecbb08c6"), looks := true }, kinds := [], alts := [], laidByText := true, laidKinds := [.data, .data, .data, .data, .sentinel, .sentinel, .pinned], laidTests := true, laidLooks := .later }
def PointsFindsUptoCardSaid : Prop := Claim7.holds Tryz.pinned (.plain (OpenSpec.upto pointsFindsSpec)) pointsFindsUptoCard

/-- THE SECOND FORM's CARD OF 'portcullislaw17.PointsMore'. -/
def pointsMoreUptoCard : Claim7 := { stood := { row := pointsMoreUptoRow, standIns := [], harness := (true, "214112a031b98e1fb6b99ff796cfd6bc702be7f6a3c73cc2b38f92d7ecbb08c6"), looks := true }, kinds := [], alts := [], laidByText := true, laidKinds := [.data, .data, .data, .data, .sentinel, .sentinel, .pinned], laidTests := true, laidLooks := .later }
def PointsMoreUptoCardSaid : Prop := Claim7.holds Tryz.pinned (.plain (OpenSpec.upto pointsMoreSpec)) pointsMoreUptoCard

/-- THE SECOND FORM's CARD OF 'portcullislaw17.PointsRise'. -/
def pointsRiseUptoCard : Claim7 := { stood := { row := pointsRiseUptoRow, standIns := [], harness := (true, "214112a031b98e1fb6b99ff796cfd6bc702be7f6a3c73cc2b38f92d7ecbb08c6"), looks := true }, kinds := [], alts := [], laidByText := true, laidKinds := [.data, .data, .data, .data, .sentinel, .sentinel, .pinned], laidTests := true, laidLooks := .later }
def PointsRiseUptoCardSaid : Prop := Claim7.holds Tryz.pinned (.plain (OpenSpec.upto pointsRiseSpec)) pointsRiseUptoCard
end Rows
end Go.Proofs.YtamokenjdmfgbaaGreatDoor
