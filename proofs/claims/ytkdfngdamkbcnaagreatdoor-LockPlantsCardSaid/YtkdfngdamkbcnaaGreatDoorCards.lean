/-
  DERIVED. GIVEN WITH THE SEED: THE CARDS: each row of YtkdfngdamkbcnaaGreatDoorRows.lean that lists a variable, with what it lists TIED to the program's text (the seventh form; the later family's looks); each row that meets fmt, with fmt's text TOLD by the authors' own Lean function (tested against real Go, not proved from fmt's source: count such statements apart). THE CARD IS WHAT COUNTS. Prove the row's statement (the work); the ties are given (YtkdfngdamkbcnaaGreatDoorTie.lean); close each card by the builder's one call (the guide's Derived/Test/ToyasCard.lean, 'card_holds'). Laid BY PROGRAM, IN A SANDBOX (cutbox-door.mjs). By AI agents, Wed Nov 11 2026. No macro, syntax, notation, axiom, sorry.
-/
import Derived.Test.YtkdfngdamkbcnaaGreatDoorRows
import GoSem.ClaimSeven
namespace Go.Proofs.YtkdfngdamkbcnaaGreatDoor
namespace Rows

/-- THE TIED CARD OF 'guidewaylaw06.LockTwoOfThree'. -/
def lockTwoOfThreeCard : Claim7 := { stood := { row := lockTwoOfThreeRow, standIns := [], harness := (true, "5865aa89a32d59fb665eed8d92ba6052d0ce9c9cb6d8c8ae9c31afdd38c36329"), looks := false }, kinds := [], alts := [], goes := true, laidByText := true, laidKinds := [.data, .data, .data], laidTests := true, laidLooks := .later }
def LockTwoOfThreeCardSaid : Prop := Claim7.holds Tryz.pinned (.plain (OpenSpec.ofChange lockTwoOfThreeSpec)) lockTwoOfThreeCard

/-- THE TIED CARD OF 'guidewaylaw06.LockNeverTwo'. -/
def lockNeverTwoCard : Claim7 := { stood := { row := lockNeverTwoRow, standIns := [], harness := (true, "5865aa89a32d59fb665eed8d92ba6052d0ce9c9cb6d8c8ae9c31afdd38c36329"), looks := false }, kinds := [], alts := [], goes := true, laidByText := true, laidKinds := [.data, .data, .data], laidTests := true, laidLooks := .later }
def LockNeverTwoCardSaid : Prop := Claim7.holds Tryz.pinned (.plain (OpenSpec.ofChange lockNeverTwoSpec)) lockNeverTwoCard

/-- THE TIED CARD OF 'guidewaylaw06.LockPlants'. -/
def lockPlantsCard : Claim7 := { stood := { row := lockPlantsRow, standIns := [], harness := (true, "5865aa89a32d59fb665eed8d92ba6052d0ce9c9cb6d8c8ae9c31afdd38c36329"), looks := false }, kinds := [], alts := [], goes := true, laidByText := true, laidKinds := [.data, .data, .data], laidTests := true, laidLooks := .later }
def LockPlantsCardSaid : Prop := Claim7.holds Tryz.pinned (.plain (OpenSpec.ofChange lockPlantsSpec)) lockPlantsCard

/-- THE SECOND FORM's CARD OF 'guidewaylaw06.LockTwoOfThree'. -/
def lockTwoOfThreeUptoCard : Claim7 := { stood := { row := lockTwoOfThreeUptoRow, standIns := [], harness := (true, "5865aa89a32d59fb665eed8d92ba6052d0ce9c9cb6d8c8ae9c31afdd38c36329"), looks := false }, kinds := [], alts := [], goes := true, laidByText := true, laidKinds := [.data, .data, .data], laidTests := true, laidLooks := .later }
def LockTwoOfThreeUptoCardSaid : Prop := Claim7.holds Tryz.pinned (.plain (OpenSpec.upto lockTwoOfThreeSpec)) lockTwoOfThreeUptoCard

/-- THE SECOND FORM's CARD OF 'guidewaylaw06.LockNeverTwo'. -/
def lockNeverTwoUptoCard : Claim7 := { stood := { row := lockNeverTwoUptoRow, standIns := [], harness := (true, "5865aa89a32d59fb665eed8d92ba6052d0ce9c9cb6d8c8ae9c31afdd38c36329"), looks := false }, kinds := [], alts := [], goes := true, laidByText := true, laidKinds := [.data, .data, .data], laidTests := true, laidLooks := .later }
def LockNeverTwoUptoCardSaid : Prop := Claim7.holds Tryz.pinned (.plain (OpenSpec.upto lockNeverTwoSpec)) lockNeverTwoUptoCard

/-- THE SECOND FORM's CARD OF 'guidewaylaw06.LockPlants'. -/
def lockPlantsUptoCard : Claim7 := { stood := { row := lockPlantsUptoRow, standIns := [], harness := (true, "5865aa89a32d59fb665eed8d92ba6052d0ce9c9cb6d8c8ae9c31afdd38c36329"), looks := false }, kinds := [], alts := [], goes := true, laidByText := true, laidKinds := [.data, .data, .data], laidTests := true, laidLooks := .later }
def LockPlantsUptoCardSaid : Prop := Claim7.holds Tryz.pinned (.plain (OpenSpec.upto lockPlantsSpec)) lockPlantsUptoCard
end Rows
end Go.Proofs.YtkdfngdamkbcnaaGreatDoor
