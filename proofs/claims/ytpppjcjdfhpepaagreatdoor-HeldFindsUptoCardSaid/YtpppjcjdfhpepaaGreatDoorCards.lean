/-
  DERIVED. GIVEN WITH THE SEED: THE CARDS: each row of YtpppjcjdfhpepaaGreatDoorRows.lean that lists a variable, with what it lists TIED to the program's text (the seventh form; the later family's looks); each row that meets fmt, with fmt's text TOLD by the authors' own Lean function (tested against real Go, not proved from fmt's source: count such statements apart). THE CARD IS WHAT COUNTS. Prove the row's statement (the work); the ties are given (YtpppjcjdfhpepaaGreatDoorTie.lean); close each card by the builder's one call (the guide's Derived/Test/ToyasCard.lean, 'card_holds'). Laid BY PROGRAM, IN A SANDBOX (cutbox-door.mjs). By AI agents, Wed Nov 11 2026. No macro, syntax, notation, axiom, sorry.
-/
import Derived.Test.YtpppjcjdfhpepaaGreatDoorRows
import GoSem.ClaimSeven
namespace Go.Proofs.YtpppjcjdfhpepaaGreatDoor
namespace Rows

/-- THE TIED CARD OF 'portcullislaw18.HeldFinds'. -/
def heldFindsCard : Claim7 := { stood := { row := heldFindsRow, standIns := [], harness := (true, "b7d334f19ba369a2d2c001b428e4c20ec38eaa92355ca3c245e872b4c348ebd0"), looks := true }, kinds := [], alts := [], laidByText := true, laidKinds := [.data, .data, .data, .data, .sentinel, .sentinel, .pinned], laidTests := true, laidLooks := .later }
def HeldFindsCardSaid : Prop := Claim7.holds Tryz.pinned (.plain (OpenSpec.ofChange heldFindsSpec)) heldFindsCard

/-- THE TIED CARD OF 'portcullislaw18.HeldWithin'. -/
def heldWithinCard : Claim7 := { stood := { row := heldWithinRow, standIns := [], harness := (true, "b7d334f19ba369a2d2c001b428e4c20ec38eaa92355ca3c245e872b4c348ebd0"), looks := true }, kinds := [], alts := [], laidByText := true, laidKinds := [.data, .data, .data, .data, .sentinel, .sentinel, .pinned], laidTests := true, laidLooks := .later }
def HeldWithinCardSaid : Prop := Claim7.holds Tryz.pinned (.plain (OpenSpec.ofChange heldWithinSpec)) heldWithinCard

/-- THE TIED CARD OF 'portcullislaw18.HeldThreads'. -/
def heldThreadsCard : Claim7 := { stood := { row := heldThreadsRow, standIns := [], harness := (true, "b7d334f19ba369a2d2c001b428e4c20ec38eaa92355ca3c245e872b4c348ebd0"), looks := true }, kinds := [], alts := [], laidByText := true, laidKinds := [.data, .data, .data, .data, .sentinel, .sentinel, .pinned], laidTests := true, laidLooks := .later }
def HeldThreadsCardSaid : Prop := Claim7.holds Tryz.pinned (.plain (OpenSpec.ofChange heldThreadsSpec)) heldThreadsCard

/-- THE SECOND FORM's CARD OF 'portcullislaw18.HeldFinds'. -/
def heldFindsUptoCard : Claim7 := { stood := { row := heldFindsUptoRow, standIns := [], harness := (true, "b7d334f19ba369a2d2c001b428e4c20ec38eaa92355ca3c245e872b4c348ebd0"), looks := true }, kinds := [], alts := [], laidByText := true, laidKinds := [.data, .data, .data, .data, .sentinel, .sentinel, .pinned], laidTests := true, laidLooks := .later }
def HeldFindsUptoCardSaid : Prop := Claim7.holds Tryz.pinned (.plain (OpenSpec.upto heldFindsSpec)) heldFindsUptoCard

/-- THE SECOND FORM's CARD OF 'portcullislaw18.HeldWithin'. -/
def heldWithinUptoCard : Claim7 := { stood := { row := heldWithinUptoRow, standIns := [], harness := (true, "b7d334f19ba369a2d2c001b428e4c20ec38eaa92355ca3c245e872b4c348ebd0"), looks := true }, kinds := [], alts := [], laidByText := true, laidKinds := [.data, .data, .data, .data, .sentinel, .sentinel, .pinned], laidTests := true, laidLooks := .later }
def HeldWithinUptoCardSaid : Prop := Claim7.holds Tryz.pinned (.plain (OpenSpec.upto heldWithinSpec)) heldWithinUptoCard

/-- THE SECOND FORM's CARD OF 'portcullislaw18.HeldThreads'. -/
def heldThreadsUptoCard : Claim7 := { stood := { row := heldThreadsUptoRow, standIns := [], harness := (true, "b7d334f19ba369a2d2c001b428e4c20ec38eaa92355ca3c245e872b4c348ebd0"), looks := true }, kinds := [], alts := [], laidByText := true, laidKinds := [.data, .data, .data, .data, .sentinel, .sentinel, .pinned], laidTests := true, laidLooks := .later }
def HeldThreadsUptoCardSaid : Prop := Claim7.holds Tryz.pinned (.plain (OpenSpec.upto heldThreadsSpec)) heldThreadsUptoCard
end Rows
end Go.Proofs.YtpppjcjdfhpepaaGreatDoor
