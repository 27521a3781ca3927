/-
  DERIVED. GIVEN WITH THE SEED: THE CARDS: each row of YthonianbjkhnpaaGreatDoorRows.lean that lists a variable, with what it lists TIED to the program's text (the seventh form; the later family's looks); each row that meets fmt, with fmt's text TOLD by the authors' own Lean function (tested against real Go, not proved from fmt's source: count such statements apart). THE CARD IS WHAT COUNTS. Prove the row's statement (the work); the ties are given (YthonianbjkhnpaaGreatDoorTie.lean); close each card by the builder's one call (the guide's Derived/Test/ToyasCard.lean, 'card_holds'). Laid BY PROGRAM, IN A SANDBOX (cutbox-door.mjs). By AI agents, Wed Nov 11 2026. No macro, syntax, notation, axiom, sorry.
-/
import Derived.Test.YthonianbjkhnpaaGreatDoorRows
import GoSem.ClaimSeven
namespace Go.Proofs.YthonianbjkhnpaaGreatDoor
namespace Rows

/-- THE TIED CARD OF 'guidewaylaw06.LockReaches'. -/
def lockReachesCard : Claim7 := { stood := { row := lockReachesRow, standIns := [], harness := (true, "28605b0cafbf540ee451cc14a107d564b8f08241fa55818854b38016e77f6c19"), looks := false }, kinds := [], alts := [], goes := true, laidByText := true, laidKinds := [.data, .data, .data], laidTests := true, laidLooks := .later }
def LockReachesCardSaid : Prop := Claim7.holds Tryz.pinned (.plain (OpenSpec.ofChange lockReachesSpec)) lockReachesCard

/-- THE TIED CARD OF 'guidewaylaw06.LockWays'. -/
def lockWaysCard : Claim7 := { stood := { row := lockWaysRow, standIns := [], harness := (true, "28605b0cafbf540ee451cc14a107d564b8f08241fa55818854b38016e77f6c19"), looks := false }, kinds := [], alts := [], goes := true, laidByText := true, laidKinds := [.data, .data, .data], laidTests := true, laidLooks := .later }
def LockWaysCardSaid : Prop := Claim7.holds Tryz.pinned (.plain (OpenSpec.ofChange lockWaysSpec)) lockWaysCard

/-- THE TIED CARD OF 'guidewaytop.TopLockThere'. -/
def topLockThereCard : Claim7 := { stood := { row := topLockThereRow, standIns := [], harness := (true, "28605b0cafbf540ee451cc14a107d564b8f08241fa55818854b38016e77f6c19"), looks := false }, kinds := [], alts := [], goes := true, laidByText := true, laidKinds := [.data, .data, .data], laidTests := true, laidLooks := .later }
def TopLockThereCardSaid : Prop := Claim7.holds Tryz.pinned (.plain (OpenSpec.ofChange topLockThereSpec)) topLockThereCard

/-- THE SECOND FORM's CARD OF 'guidewaylaw06.LockReaches'. -/
def lockReachesUptoCard : Claim7 := { stood := { row := lockReachesUptoRow, standIns := [], harness := (true, "28605b0cafbf540ee451cc14a107d564b8f08241fa55818854b38016e77f6c19"), looks := false }, kinds := [], alts := [], goes := true, laidByText := true, laidKinds := [.data, .data, .data], laidTests := true, laidLooks := .later }
def LockReachesUptoCardSaid : Prop := Claim7.holds Tryz.pinned (.plain (OpenSpec.upto lockReachesSpec)) lockReachesUptoCard

/-- THE SECOND FORM's CARD OF 'guidewaylaw06.LockWays'. -/
def lockWaysUptoCard : Claim7 := { stood := { row := lockWaysUptoRow, standIns := [], harness := (true, "28605b0cafbf540ee451cc14a107d564b8f08241fa55818854b38016e77f6c19"), looks := false }, kinds := [], alts := [], goes := true, laidByText := true, laidKinds := [.data, .data, .data], laidTests := true, laidLooks := .later }
def LockWaysUptoCardSaid : Prop := Claim7.holds Tryz.pinned (.plain (OpenSpec.upto lockWaysSpec)) lockWaysUptoCard

/-- THE SECOND FORM's CARD OF 'guidewaytop.TopLockThere'. -/
def topLockThereUptoCard : Claim7 := { stood := { row := topLockThereUptoRow, standIns := [], harness := (true, "28605b0cafbf540ee451cc14a107d564b8f08241fa55818854b38016e77f6c19"), looks := false }, kinds := [], alts := [], goes := true, laidByText := true, laidKinds := [.data, .data, .data], laidTests := true, laidLooks := .later }
def TopLockThereUptoCardSaid : Prop := Claim7.holds Tryz.pinned (.plain (OpenSpec.upto topLockThereSpec)) topLockThereUptoCard
end Rows
end Go.Proofs.YthonianbjkhnpaaGreatDoor
