/-
  DERIVED. GIVEN WITH THE SEED: THE CARDS: each row of YtigpjhlbndfkkaaGreatDoorRows.lean that lists a variable, with what it lists TIED to the program's text (the seventh form; the later family's looks); each row that meets fmt, with fmt's text TOLD by the authors' own Lean function (tested against real Go, not proved from fmt's source: count such statements apart). THE CARD IS WHAT COUNTS. Prove the row's statement (the work); the ties are given (YtigpjhlbndfkkaaGreatDoorTie.lean); close each card by the builder's one call (the guide's Derived/Test/ToyasCard.lean, 'card_holds'). Laid BY PROGRAM, IN A SANDBOX (cutbox-door.mjs). By AI agents, Wed Nov 11 2026. No macro, syntax, notation, axiom, sorry.
-/
import Derived.Test.YtigpjhlbndfkkaaGreatDoorRows
import GoSem.ClaimSeven
namespace Go.Proofs.YtigpjhlbndfkkaaGreatDoor
namespace Rows

/-- THE TIED CARD OF 'guidewaylaw04.LocateTexts'. -/
def locateTextsCard : Claim7 := { stood := { row := locateTextsRow, standIns := [], harness := (true, "57af395f8cdc0556a98d086393bcb8587b029ebfe6ae931dca6d66444cdb3700"), looks := true }, kinds := [], alts := [], laidByText := true, laidKinds := [.data, .data, .data, .data, .sentinel, .sentinel, .data, .pinned], laidTests := true, laidLooks := .later }
def LocateTextsCardSaid : Prop := Claim7.holds Tryz.pinned (.plain (OpenSpec.ofChange locateTextsSpec)) locateTextsCard

/-- THE SECOND FORM's CARD OF 'guidewaylaw04.LocateTexts'. -/
def locateTextsUptoCard : Claim7 := { stood := { row := locateTextsUptoRow, standIns := [], harness := (true, "57af395f8cdc0556a98d086393bcb8587b029ebfe6ae931dca6d66444cdb3700"), looks := true }, kinds := [], alts := [], laidByText := true, laidKinds := [.data, .data, .data, .data, .sentinel, .sentinel, .data, .pinned], laidTests := true, laidLooks := .later }
def LocateTextsUptoCardSaid : Prop := Claim7.holds Tryz.pinned (.plain (OpenSpec.upto locateTextsSpec)) locateTextsUptoCard
end Rows
end Go.Proofs.YtigpjhlbndfkkaaGreatDoor
