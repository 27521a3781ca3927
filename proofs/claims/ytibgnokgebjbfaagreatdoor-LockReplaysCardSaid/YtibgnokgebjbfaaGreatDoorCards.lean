/-
  DERIVED. GIVEN WITH THE SEED: THE CARDS: each row of YtibgnokgebjbfaaGreatDoorRows.lean that lists a variable, with what it lists TIED to the program's text (the seventh form; the later family's looks); each row that meets fmt, with fmt's text TOLD by the authors' own Lean function (tested against real Go, not proved from fmt's source: count such statements apart). THE CARD IS WHAT COUNTS. Prove the row's statement (the work); the ties are given (YtibgnokgebjbfaaGreatDoorTie.lean); close each card by the builder's one call (the guide's Derived/Test/ToyasCard.lean, 'card_holds'). Laid BY PROGRAM, IN A SANDBOX (cutbox-door.mjs). By AI agents, Wed Nov 11 2026. No macro, syntax, notation, axiom, sorry.
-/
import Derived.Test.YtibgnokgebjbfaaGreatDoorRows
import GoSem.ClaimSeven
namespace Go.Proofs.YtibgnokgebjbfaaGreatDoor
namespace Rows

/-- THE TIED CARD OF 'guidewaylaw06.LockReplays'. -/
def lockReplaysCard : Claim7 := { stood := { row := lockReplaysRow, standIns := [], harness := (true, "4dc970fb21b803c69324ebc85f71c1c57c106ca26edcdb2a46c8ed28385b9b2b"), looks := false }, kinds := [], alts := [], goes := true, laidByText := true, laidKinds := [.data, .data, .data], laidTests := true, laidLooks := .later }
def LockReplaysCardSaid : Prop := Claim7.holds Tryz.pinned (.plain (OpenSpec.ofChange lockReplaysSpec)) lockReplaysCard

/-- THE TIED CARD OF 'guidewaylaw06.LockLocked'. -/
def lockLockedCard : Claim7 := { stood := { row := lockLockedRow, standIns := [], harness := (true, "4dc970fb21b803c69324ebc85f71c1c57c106ca26edcdb2a46c8ed28385b9b2b"), looks := false }, kinds := [], alts := [], goes := true, laidByText := true, laidKinds := [.data, .data, .data], laidTests := true, laidLooks := .later }
def LockLockedCardSaid : Prop := Claim7.holds Tryz.pinned (.plain (OpenSpec.ofChange lockLockedSpec)) lockLockedCard

/-- THE TIED CARD OF 'guidewaytop.TopLockBack'. -/
def topLockBackCard : Claim7 := { stood := { row := topLockBackRow, standIns := [], harness := (true, "4dc970fb21b803c69324ebc85f71c1c57c106ca26edcdb2a46c8ed28385b9b2b"), looks := false }, kinds := [], alts := [], goes := true, laidByText := true, laidKinds := [.data, .data, .data], laidTests := true, laidLooks := .later }
def TopLockBackCardSaid : Prop := Claim7.holds Tryz.pinned (.plain (OpenSpec.ofChange topLockBackSpec)) topLockBackCard

/-- THE SECOND FORM's CARD OF 'guidewaylaw06.LockReplays'. -/
def lockReplaysUptoCard : Claim7 := { stood := { row := lockReplaysUptoRow, standIns := [], harness := (true, "4dc970fb21b803c69324ebc85f71c1c57c106ca26edcdb2a46c8ed28385b9b2b"), looks := false }, kinds := [], alts := [], goes := true, laidByText := true, laidKinds := [.data, .data, .data], laidTests := true, laidLooks := .later }
def LockReplaysUptoCardSaid : Prop := Claim7.holds Tryz.pinned (.plain (OpenSpec.upto lockReplaysSpec)) lockReplaysUptoCard

/-- THE SECOND FORM's CARD OF 'guidewaylaw06.LockLocked'. -/
def lockLockedUptoCard : Claim7 := { stood := { row := lockLockedUptoRow, standIns := [], harness := (true, "4dc970fb21b803c69324ebc85f71c1c57c106ca26edcdb2a46c8ed28385b9b2b"), looks := false }, kinds := [], alts := [], goes := true, laidByText := true, laidKinds := [.data, .data, .data], laidTests := true, laidLooks := .later }
def LockLockedUptoCardSaid : Prop := Claim7.holds Tryz.pinned (.plain (OpenSpec.upto lockLockedSpec)) lockLockedUptoCard

/-- THE SECOND FORM's CARD OF 'guidewaytop.TopLockBack'. -/
def topLockBackUptoCard : Claim7 := { stood := { row := topLockBackUptoRow, standIns := [], harness := (true, "4dc970fb21b803c69324ebc85f71c1c57c106ca26edcdb2a46c8ed28385b9b2b"), looks := false }, kinds := [], alts := [], goes := true, laidByText := true, laidKinds := [.data, .data, .data], laidTests := true, laidLooks := .later }
def TopLockBackUptoCardSaid : Prop := Claim7.holds Tryz.pinned (.plain (OpenSpec.upto topLockBackSpec)) topLockBackUptoCard
end Rows
end Go.Proofs.YtibgnokgebjbfaaGreatDoor
