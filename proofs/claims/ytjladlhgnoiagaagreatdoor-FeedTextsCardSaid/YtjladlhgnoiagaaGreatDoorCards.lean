/-
  DERIVED. GIVEN WITH THE SEED: THE CARDS: each row of YtjladlhgnoiagaaGreatDoorRows.lean that lists a variable, with what it lists TIED to the program's text (the seventh form; the later family's looks); each row that meets fmt, with fmt's text TOLD by the authors' own Lean function (tested against real Go, not proved from fmt's source: count such statements apart). THE CARD IS WHAT COUNTS. Prove the row's statement (the work); the ties are given (YtjladlhgnoiagaaGreatDoorTie.lean); close each card by the builder's one call (the guide's Derived/Test/ToyasCard.lean, 'card_holds'). Laid BY PROGRAM, IN A SANDBOX (cutbox-door.mjs). By AI agents, Wed Nov 11 2026. No macro, syntax, notation, axiom, sorry.
-/
import Derived.Test.YtjladlhgnoiagaaGreatDoorRows
import GoSem.ClaimSeven
namespace Go.Proofs.YtjladlhgnoiagaaGreatDoor
namespace Rows

/-- THE TIED CARD OF 'guidewaylaw07.FeedTexts'. -/
def feedTextsCard : Claim7 := { stood := { row := feedTextsRow, standIns := [], harness := (true, "fe4d48f9c3e6eabf5f3c783fc5509eca9b025fdee4b293f327a8268d67b1dfff"), looks := true }, kinds := [], alts := [], goes := true, laidByText := true, laidKinds := [.data, .data, .data, .data, .sentinel, .sentinel, .pinned], laidTests := true, laidLooks := .later }
def FeedTextsCardSaid : Prop := Claim7.holds Tryz.pinned (.plain (OpenSpec.ofChange feedTextsSpec)) feedTextsCard

/-- THE SECOND FORM's CARD OF 'guidewaylaw07.FeedTexts'. -/
def feedTextsUptoCard : Claim7 := { stood := { row := feedTextsUptoRow, standIns := [], harness := (true, "fe4d48f9c3e6eabf5f3c783fc5509eca9b025fdee4b293f327a8268d67b1dfff"), looks := true }, kinds := [], alts := [], goes := true, laidByText := true, laidKinds := [.data, .data, .data, .data, .sentinel, .sentinel, .pinned], laidTests := true, laidLooks := .later }
def FeedTextsUptoCardSaid : Prop := Claim7.holds Tryz.pinned (.plain (OpenSpec.upto feedTextsSpec)) feedTextsUptoCard
end Rows
end Go.Proofs.YtjladlhgnoiagaaGreatDoor
