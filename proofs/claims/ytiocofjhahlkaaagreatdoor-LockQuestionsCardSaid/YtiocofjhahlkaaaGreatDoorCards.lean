/-
  DERIVED. GIVEN WITH THE SEED: THE CARDS: each row of YtiocofjhahlkaaaGreatDoorRows.lean that lists a variable, with what it lists TIED to the program's text (the seventh form; the later family's looks); each row that meets fmt, with fmt's text TOLD by the authors' own Lean function (tested against real Go, not proved from fmt's source: count such statements apart). THE CARD IS WHAT COUNTS. Prove the row's statement (the work); the ties are given (YtiocofjhahlkaaaGreatDoorTie.lean); close each card by the builder's one call (the guide's Derived/Test/ToyasCard.lean, 'card_holds'). Laid BY PROGRAM, IN A SANDBOX (cutbox-door.mjs). By AI agents, Wed Nov 11 2026. No macro, syntax, notation, axiom, sorry.
-/
import Derived.Test.YtiocofjhahlkaaaGreatDoorRows
import GoSem.ClaimSeven
namespace Go.Proofs.YtiocofjhahlkaaaGreatDoor
namespace Rows

/-- THE TIED CARD OF 'guidewaylaw06.LockStates'. -/
def lockStatesCard : Claim7 := { stood := { row := lockStatesRow, standIns := [], harness := (true, "55e2d1ffe628848faa3d3ed97d1ba1b3ae7932354c8a2faf2be387e5c3d4cd38"), looks := false }, kinds := [], alts := [], goes := true, laidByText := true, laidKinds := [.data, .data, .data], laidTests := true, laidLooks := .later }
def LockStatesCardSaid : Prop := Claim7.holds Tryz.pinned (.plain (OpenSpec.ofChange lockStatesSpec)) lockStatesCard

/-- THE TIED CARD OF 'guidewaylaw06.LockQuestions'. -/
def lockQuestionsCard : Claim7 := { stood := { row := lockQuestionsRow, standIns := [], harness := (true, "55e2d1ffe628848faa3d3ed97d1ba1b3ae7932354c8a2faf2be387e5c3d4cd38"), looks := false }, kinds := [], alts := [], goes := true, laidByText := true, laidKinds := [.data, .data, .data], laidTests := true, laidLooks := .later }
def LockQuestionsCardSaid : Prop := Claim7.holds Tryz.pinned (.plain (OpenSpec.ofChange lockQuestionsSpec)) lockQuestionsCard

/-- THE SECOND FORM's CARD OF 'guidewaylaw06.LockStates'. -/
def lockStatesUptoCard : Claim7 := { stood := { row := lockStatesUptoRow, standIns := [], harness := (true, "55e2d1ffe628848faa3d3ed97d1ba1b3ae7932354c8a2faf2be387e5c3d4cd38"), looks := false }, kinds := [], alts := [], goes := true, laidByText := true, laidKinds := [.data, .data, .data], laidTests := true, laidLooks := .later }
def LockStatesUptoCardSaid : Prop := Claim7.holds Tryz.pinned (.plain (OpenSpec.upto lockStatesSpec)) lockStatesUptoCard

/-- THE SECOND FORM's CARD OF 'guidewaylaw06.LockQuestions'. -/
def lockQuestionsUptoCard : Claim7 := { stood := { row := lockQuestionsUptoRow, standIns := [], harness := (true, "55e2d1ffe628848faa3d3ed97d1ba1b3ae7932354c8a2faf2be387e5c3d4cd38"), looks := false }, kinds := [], alts := [], goes := true, laidByText := true, laidKinds := [.data, .data, .data], laidTests := true, laidLooks := .later }
def LockQuestionsUptoCardSaid : Prop := Claim7.holds Tryz.pinned (.plain (OpenSpec.upto lockQuestionsSpec)) lockQuestionsUptoCard
end Rows
end Go.Proofs.YtiocofjhahlkaaaGreatDoor
