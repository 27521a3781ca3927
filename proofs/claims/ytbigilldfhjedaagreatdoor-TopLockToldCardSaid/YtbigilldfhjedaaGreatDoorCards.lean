/-
  DERIVED. GIVEN WITH THE SEED: THE CARDS: each row of YtbigilldfhjedaaGreatDoorRows.lean that lists a variable, with what it lists TIED to the program's text (the seventh form; the later family's looks); each row that meets fmt, with fmt's text TOLD by the authors' own Lean function (tested against real Go, not proved from fmt's source: count such statements apart). THE CARD IS WHAT COUNTS. Prove the row's statement (the work); the ties are given (YtbigilldfhjedaaGreatDoorTie.lean); close each card by the builder's one call (the guide's Derived/Test/ToyasCard.lean, 'card_holds'). Laid BY PROGRAM, IN A SANDBOX (cutbox-door.mjs). By AI agents, Wed Nov 11 2026. No macro, syntax, notation, axiom, sorry.
-/
import Derived.Test.YtbigilldfhjedaaGreatDoorRows
import GoSem.ClaimSeven
namespace Go.Proofs.YtbigilldfhjedaaGreatDoor
namespace Rows

/-- THE TIED CARD OF 'guidewaylaw06.LockTexts'. -/
def lockTextsCard : Claim7 := { stood := { row := lockTextsRow, standIns := [], harness := (true, "ab54b7e1c972e28ae82e47330dff9fb89c22a4204072de9e7af3a3d2b55430f8"), looks := true }, kinds := [], alts := [], goes := true, laidByText := true, laidKinds := [.data, .data, .data, .data, .sentinel, .sentinel, .widerDeep, .pinned], laidTests := true, laidLooks := .later }
def LockTextsCardSaid : Prop := Claim7.holds Tryz.pinned (.plain (OpenSpec.ofChange lockTextsSpec)) lockTextsCard

/-- THE TIED CARD OF 'guidewaytop.TopLockTold'. -/
def topLockToldCard : Claim7 := { stood := { row := topLockToldRow, standIns := [], harness := (true, "ab54b7e1c972e28ae82e47330dff9fb89c22a4204072de9e7af3a3d2b55430f8"), looks := true }, kinds := [], alts := [], goes := true, laidByText := true, laidKinds := [.data, .data, .data, .data, .sentinel, .sentinel, .widerDeep, .pinned], laidTests := true, laidLooks := .later }
def TopLockToldCardSaid : Prop := Claim7.holds Tryz.pinned (.plain (OpenSpec.ofChange topLockToldSpec)) topLockToldCard

/-- THE SECOND FORM's CARD OF 'guidewaylaw06.LockTexts'. -/
def lockTextsUptoCard : Claim7 := { stood := { row := lockTextsUptoRow, standIns := [], harness := (true, "ab54b7e1c972e28ae82e47330dff9fb89c22a4204072de9e7af3a3d2b55430f8"), looks := true }, kinds := [], alts := [], goes := true, laidByText := true, laidKinds := [.data, .data, .data, .data, .sentinel, .sentinel, .widerDeep, .pinned], laidTests := true, laidLooks := .later }
def LockTextsUptoCardSaid : Prop := Claim7.holds Tryz.pinned (.plain (OpenSpec.upto lockTextsSpec)) lockTextsUptoCard

/-- THE SECOND FORM's CARD OF 'guidewaytop.TopLockTold'. -/
def topLockToldUptoCard : Claim7 := { stood := { row := topLockToldUptoRow, standIns := [], harness := (true, "ab54b7e1c972e28ae82e47330dff9fb89c22a4204072de9e7af3a3d2b55430f8"), looks := true }, kinds := [], alts := [], goes := true, laidByText := true, laidKinds := [.data, .data, .data, .data, .sentinel, .sentinel, .widerDeep, .pinned], laidTests := true, laidLooks := .later }
def TopLockToldUptoCardSaid : Prop := Claim7.holds Tryz.pinned (.plain (OpenSpec.upto topLockToldSpec)) topLockToldUptoCard
end Rows
end Go.Proofs.YtbigilldfhjedaaGreatDoor
