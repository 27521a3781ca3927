/-
  DERIVED. GIVEN WITH THE SEED: THE CARDS: each row of YtpgpimedmpeliaaGreatDoorRows.lean that lists a variable, with what it lists TIED to the program's text (the seventh form; the later family's looks); each row that meets fmt, with fmt's text TOLD by the authors' own Lean function (tested against real Go, not proved from fmt's source: count such statements apart). THE CARD IS WHAT COUNTS. Prove the row's statement (the work); the ties are given (YtpgpimedmpeliaaGreatDoorTie.lean); close each card by the builder's one call (the guide's Derived/Test/ToyasCard.lean, 'card_holds'). Laid BY PROGRAM, IN A SANDBOX (cutbox-door.mjs). By AI agents, Wed Nov 11 2026. No macro, syntax, notation, axiom, sorry.
-/
import Derived.Test.YtpgpimedmpeliaaGreatDoorRows
import GoSem.ClaimSeven
namespace Go.Proofs.YtpgpimedmpeliaaGreatDoor
namespace Rows

/-- THE TIED CARD OF 'guidewaylaw06.LockReaches'. -/
def lockReachesCard : Claim7 := { stood := { row := lockReachesRow, standIns := [], harness := (true, "4665e6c59ac021a89dbd5f6e06b0f4f3d331a724406db59d68bf46f66753303c"), looks := true }, kinds := [], alts := [], goes := true, laidByText := true, laidKinds := [.data, .data, .data], laidTests := true, laidLooks := .later }
def LockReachesCardSaid : Prop := Claim7.holds Tryz.pinned (.plain (OpenSpec.ofChange lockReachesSpec)) lockReachesCard

/-- THE TIED CARD OF 'guidewaylaw06.LockPlants'. -/
def lockPlantsCard : Claim7 := { stood := { row := lockPlantsRow, standIns := [], harness := (true, "4665e6c59ac021a89dbd5f6e06b0f4f3d331a724406db59d68bf46f66753303c"), looks := true }, kinds := [], alts := [], goes := true, laidByText := true, laidKinds := [.data, .data, .data], laidTests := true, laidLooks := .later }
def LockPlantsCardSaid : Prop := Claim7.holds Tryz.pinned (.plain (OpenSpec.ofChange lockPlantsSpec)) lockPlantsCard

/-- THE TIED CARD OF 'guidewaylaw06.LockTelegrams'. -/
def lockTelegramsCard : Claim7 := { stood := { row := lockTelegramsRow, standIns := [], harness := (true, "4665e6c59ac021a89dbd5f6e06b0f4f3d331a724406db59d68bf46f66753303c"), looks := true }, kinds := [], alts := [], goes := true, laidByText := true, laidKinds := [.data, .data, .data], laidTests := true, laidLooks := .later }
def LockTelegramsCardSaid : Prop := Claim7.holds Tryz.pinned (.plain (OpenSpec.ofChange lockTelegramsSpec)) lockTelegramsCard

/-- THE TIED CARD OF 'guidewaylaw06.LockStates'. -/
def lockStatesCard : Claim7 := { stood := { row := lockStatesRow, standIns := [], harness := (true, "4665e6c59ac021a89dbd5f6e06b0f4f3d331a724406db59d68bf46f66753303c"), looks := true }, kinds := [], alts := [], goes := true, laidByText := true, laidKinds := [.data, .data, .data], laidTests := true, laidLooks := .later }
def LockStatesCardSaid : Prop := Claim7.holds Tryz.pinned (.plain (OpenSpec.ofChange lockStatesSpec)) lockStatesCard

/-- THE TIED CARD OF 'guidewaylaw06.LockReplays'. -/
def lockReplaysCard : Claim7 := { stood := { row := lockReplaysRow, standIns := [], harness := (true, "4665e6c59ac021a89dbd5f6e06b0f4f3d331a724406db59d68bf46f66753303c"), looks := true }, kinds := [], alts := [], goes := true, laidByText := true, laidKinds := [.data, .data, .data], laidTests := true, laidLooks := .later }
def LockReplaysCardSaid : Prop := Claim7.holds Tryz.pinned (.plain (OpenSpec.ofChange lockReplaysSpec)) lockReplaysCard

/-- THE TIED CARD OF 'guidewaylaw06.LockNeverTwo'. -/
def lockNeverTwoCard : Claim7 := { stood := { row := lockNeverTwoRow, standIns := [], harness := (true, "4665e6c59ac021a89dbd5f6e06b0f4f3d331a724406db59d68bf46f66753303c"), looks := true }, kinds := [], alts := [], goes := true, laidByText := true, laidKinds := [.data, .data, .data], laidTests := true, laidLooks := .later }
def LockNeverTwoCardSaid : Prop := Claim7.holds Tryz.pinned (.plain (OpenSpec.ofChange lockNeverTwoSpec)) lockNeverTwoCard

/-- THE TIED CARD OF 'guidewaylaw06.LockNeverShortened'. -/
def lockNeverShortenedCard : Claim7 := { stood := { row := lockNeverShortenedRow, standIns := [], harness := (true, "4665e6c59ac021a89dbd5f6e06b0f4f3d331a724406db59d68bf46f66753303c"), looks := true }, kinds := [], alts := [], goes := true, laidByText := true, laidKinds := [.data, .data, .data], laidTests := true, laidLooks := .later }
def LockNeverShortenedCardSaid : Prop := Claim7.holds Tryz.pinned (.plain (OpenSpec.ofChange lockNeverShortenedSpec)) lockNeverShortenedCard

/-- THE TIED CARD OF 'guidewaylaw06.LockApplies'. -/
def lockAppliesCard : Claim7 := { stood := { row := lockAppliesRow, standIns := [], harness := (true, "4665e6c59ac021a89dbd5f6e06b0f4f3d331a724406db59d68bf46f66753303c"), looks := true }, kinds := [], alts := [], goes := true, laidByText := true, laidKinds := [.data, .data, .data], laidTests := true, laidLooks := .later }
def LockAppliesCardSaid : Prop := Claim7.holds Tryz.pinned (.plain (OpenSpec.ofChange lockAppliesSpec)) lockAppliesCard

/-- THE TIED CARD OF 'guidewaylaw06.LockLocked'. -/
def lockLockedCard : Claim7 := { stood := { row := lockLockedRow, standIns := [], harness := (true, "4665e6c59ac021a89dbd5f6e06b0f4f3d331a724406db59d68bf46f66753303c"), looks := true }, kinds := [], alts := [], goes := true, laidByText := true, laidKinds := [.data, .data, .data], laidTests := true, laidLooks := .later }
def LockLockedCardSaid : Prop := Claim7.holds Tryz.pinned (.plain (OpenSpec.ofChange lockLockedSpec)) lockLockedCard

/-- THE TIED CARD OF 'guidewaylaw06.LockPossibles'. -/
def lockPossiblesCard : Claim7 := { stood := { row := lockPossiblesRow, standIns := [], harness := (true, "4665e6c59ac021a89dbd5f6e06b0f4f3d331a724406db59d68bf46f66753303c"), looks := true }, kinds := [], alts := [], goes := true, laidByText := true, laidKinds := [.data, .data, .data], laidTests := true, laidLooks := .later }
def LockPossiblesCardSaid : Prop := Claim7.holds Tryz.pinned (.plain (OpenSpec.ofChange lockPossiblesSpec)) lockPossiblesCard

/-- THE TIED CARD OF 'guidewaylaw06.LockWays'. -/
def lockWaysCard : Claim7 := { stood := { row := lockWaysRow, standIns := [], harness := (true, "4665e6c59ac021a89dbd5f6e06b0f4f3d331a724406db59d68bf46f66753303c"), looks := true }, kinds := [], alts := [], goes := true, laidByText := true, laidKinds := [.data, .data, .data], laidTests := true, laidLooks := .later }
def LockWaysCardSaid : Prop := Claim7.holds Tryz.pinned (.plain (OpenSpec.ofChange lockWaysSpec)) lockWaysCard

/-- THE TIED CARD OF 'guidewaylaw06.LockQuestions'. -/
def lockQuestionsCard : Claim7 := { stood := { row := lockQuestionsRow, standIns := [], harness := (true, "4665e6c59ac021a89dbd5f6e06b0f4f3d331a724406db59d68bf46f66753303c"), looks := true }, kinds := [], alts := [], goes := true, laidByText := true, laidKinds := [.data, .data, .data], laidTests := true, laidLooks := .later }
def LockQuestionsCardSaid : Prop := Claim7.holds Tryz.pinned (.plain (OpenSpec.ofChange lockQuestionsSpec)) lockQuestionsCard

/-- THE TIED CARD OF 'guidewaylaw06.LockTwoOfThree'. -/
def lockTwoOfThreeCard : Claim7 := { stood := { row := lockTwoOfThreeRow, standIns := [], harness := (true, "4665e6c59ac021a89dbd5f6e06b0f4f3d331a724406db59d68bf46f66753303c"), looks := true }, kinds := [], alts := [], goes := true, laidByText := true, laidKinds := [.data, .data, .data], laidTests := true, laidLooks := .later }
def LockTwoOfThreeCardSaid : Prop := Claim7.holds Tryz.pinned (.plain (OpenSpec.ofChange lockTwoOfThreeSpec)) lockTwoOfThreeCard

/-- THE TIED CARD OF 'guidewaylaw06.LockReceives'. -/
def lockReceivesCard : Claim7 := { stood := { row := lockReceivesRow, standIns := [], harness := (true, "4665e6c59ac021a89dbd5f6e06b0f4f3d331a724406db59d68bf46f66753303c"), looks := true }, kinds := [], alts := [], goes := true, laidByText := true, laidKinds := [.data, .data, .data], laidTests := true, laidLooks := .later }
def LockReceivesCardSaid : Prop := Claim7.holds Tryz.pinned (.plain (OpenSpec.ofChange lockReceivesSpec)) lockReceivesCard

/-- THE TIED CARD OF 'guidewaylaw06.LockTexts'. -/
def lockTextsCard : Claim7 := { stood := { row := lockTextsRow, standIns := [], harness := (true, "4665e6c59ac021a89dbd5f6e06b0f4f3d331a724406db59d68bf46f66753303c"), looks := true }, kinds := [], alts := [], goes := true, laidByText := true, laidKinds := [.data, .data, .data, .data, .sentinel, .sentinel, .widerDeep, .pinned], laidTests := true, laidLooks := .later }
def LockTextsCardSaid : Prop := Claim7.holds Tryz.pinned (.plain (OpenSpec.ofChange lockTextsSpec)) lockTextsCard

/-- THE TIED CARD OF 'guidewaytop.TopLockBack'. -/
def topLockBackCard : Claim7 := { stood := { row := topLockBackRow, standIns := [], harness := (true, "4665e6c59ac021a89dbd5f6e06b0f4f3d331a724406db59d68bf46f66753303c"), looks := true }, kinds := [], alts := [], goes := true, laidByText := true, laidKinds := [.data, .data, .data], laidTests := true, laidLooks := .later }
def TopLockBackCardSaid : Prop := Claim7.holds Tryz.pinned (.plain (OpenSpec.ofChange topLockBackSpec)) topLockBackCard

/-- THE TIED CARD OF 'guidewaytop.TopLockThere'. -/
def topLockThereCard : Claim7 := { stood := { row := topLockThereRow, standIns := [], harness := (true, "4665e6c59ac021a89dbd5f6e06b0f4f3d331a724406db59d68bf46f66753303c"), looks := true }, kinds := [], alts := [], goes := true, laidByText := true, laidKinds := [.data, .data, .data], laidTests := true, laidLooks := .later }
def TopLockThereCardSaid : Prop := Claim7.holds Tryz.pinned (.plain (OpenSpec.ofChange topLockThereSpec)) topLockThereCard

/-- THE TIED CARD OF 'guidewaytop.TopLockTold'. -/
def topLockToldCard : Claim7 := { stood := { row := topLockToldRow, standIns := [], harness := (true, "4665e6c59ac021a89dbd5f6e06b0f4f3d331a724406db59d68bf46f66753303c"), looks := true }, kinds := [], alts := [], goes := true, laidByText := true, laidKinds := [.data, .data, .data, .data, .sentinel, .sentinel, .widerDeep, .pinned], laidTests := true, laidLooks := .later }
def TopLockToldCardSaid : Prop := Claim7.holds Tryz.pinned (.plain (OpenSpec.ofChange topLockToldSpec)) topLockToldCard

/-- THE SECOND FORM's CARD OF 'guidewaylaw06.LockReaches'. -/
def lockReachesUptoCard : Claim7 := { stood := { row := lockReachesUptoRow, standIns := [], harness := (true, "4665e6c59ac021a89dbd5f6e06b0f4f3d331a724406db59d68bf46f66753303c"), looks := true }, kinds := [], alts := [], goes := true, laidByText := true, laidKinds := [.data, .data, .data], laidTests := true, laidLooks := .later }
def LockReachesUptoCardSaid : Prop := Claim7.holds Tryz.pinned (.plain (OpenSpec.upto lockReachesSpec)) lockReachesUptoCard

/-- THE SECOND FORM's CARD OF 'guidewaylaw06.LockPlants'. -/
def lockPlantsUptoCard : Claim7 := { stood := { row := lockPlantsUptoRow, standIns := [], harness := (true, "4665e6c59ac021a89dbd5f6e06b0f4f3d331a724406db59d68bf46f66753303c"), looks := true }, kinds := [], alts := [], goes := true, laidByText := true, laidKinds := [.data, .data, .data], laidTests := true, laidLooks := .later }
def LockPlantsUptoCardSaid : Prop := Claim7.holds Tryz.pinned (.plain (OpenSpec.upto lockPlantsSpec)) lockPlantsUptoCard

/-- THE SECOND FORM's CARD OF 'guidewaylaw06.LockTelegrams'. -/
def lockTelegramsUptoCard : Claim7 := { stood := { row := lockTelegramsUptoRow, standIns := [], harness := (true, "4665e6c59ac021a89dbd5f6e06b0f4f3d331a724406db59d68bf46f66753303c"), looks := true }, kinds := [], alts := [], goes := true, laidByText := true, laidKinds := [.data, .data, .data], laidTests := true, laidLooks := .later }
def LockTelegramsUptoCardSaid : Prop := Claim7.holds Tryz.pinned (.plain (OpenSpec.upto lockTelegramsSpec)) lockTelegramsUptoCard

/-- THE SECOND FORM's CARD OF 'guidewaylaw06.LockStates'. -/
def lockStatesUptoCard : Claim7 := { stood := { row := lockStatesUptoRow, standIns := [], harness := (true, "4665e6c59ac021a89dbd5f6e06b0f4f3d331a724406db59d68bf46f66753303c"), looks := true }, kinds := [], alts := [], goes := true, laidByText := true, laidKinds := [.data, .data, .data], laidTests := true, laidLooks := .later }
def LockStatesUptoCardSaid : Prop := Claim7.holds Tryz.pinned (.plain (OpenSpec.upto lockStatesSpec)) lockStatesUptoCard

/-- THE SECOND FORM's CARD OF 'guidewaylaw06.LockReplays'. -/
def lockReplaysUptoCard : Claim7 := { stood := { row := lockReplaysUptoRow, standIns := [], harness := (true, "4665e6c59ac021a89dbd5f6e06b0f4f3d331a724406db59d68bf46f66753303c"), looks := true }, kinds := [], alts := [], goes := true, laidByText := true, laidKinds := [.data, .data, .data], laidTests := true, laidLooks := .later }
def LockReplaysUptoCardSaid : Prop := Claim7.holds Tryz.pinned (.plain (OpenSpec.upto lockReplaysSpec)) lockReplaysUptoCard

/-- THE SECOND FORM's CARD OF 'guidewaylaw06.LockNeverTwo'. -/
def lockNeverTwoUptoCard : Claim7 := { stood := { row := lockNeverTwoUptoRow, standIns := [], harness := (true, "4665e6c59ac021a89dbd5f6e06b0f4f3d331a724406db59d68bf46f66753303c"), looks := true }, kinds := [], alts := [], goes := true, laidByText := true, laidKinds := [.data, .data, .data], laidTests := true, laidLooks := .later }
def LockNeverTwoUptoCardSaid : Prop := Claim7.holds Tryz.pinned (.plain (OpenSpec.upto lockNeverTwoSpec)) lockNeverTwoUptoCard

/-- THE SECOND FORM's CARD OF 'guidewaylaw06.LockNeverShortened'. -/
def lockNeverShortenedUptoCard : Claim7 := { stood := { row := lockNeverShortenedUptoRow, standIns := [], harness := (true, "4665e6c59ac021a89dbd5f6e06b0f4f3d331a724406db59d68bf46f66753303c"), looks := true }, kinds := [], alts := [], goes := true, laidByText := true, laidKinds := [.data, .data, .data], laidTests := true, laidLooks := .later }
def LockNeverShortenedUptoCardSaid : Prop := Claim7.holds Tryz.pinned (.plain (OpenSpec.upto lockNeverShortenedSpec)) lockNeverShortenedUptoCard

/-- THE SECOND FORM's CARD OF 'guidewaylaw06.LockApplies'. -/
def lockAppliesUptoCard : Claim7 := { stood := { row := lockAppliesUptoRow, standIns := [], harness := (true, "4665e6c59ac021a89dbd5f6e06b0f4f3d331a724406db59d68bf46f66753303c"), looks := true }, kinds := [], alts := [], goes := true, laidByText := true, laidKinds := [.data, .data, .data], laidTests := true, laidLooks := .later }
def LockAppliesUptoCardSaid : Prop := Claim7.holds Tryz.pinned (.plain (OpenSpec.upto lockAppliesSpec)) lockAppliesUptoCard

/-- THE SECOND FORM's CARD OF 'guidewaylaw06.LockLocked'. -/
def lockLockedUptoCard : Claim7 := { stood := { row := lockLockedUptoRow, standIns := [], harness := (true, "4665e6c59ac021a89dbd5f6e06b0f4f3d331a724406db59d68bf46f66753303c"), looks := true }, kinds := [], alts := [], goes := true, laidByText := true, laidKinds := [.data, .data, .data], laidTests := true, laidLooks := .later }
def LockLockedUptoCardSaid : Prop := Claim7.holds Tryz.pinned (.plain (OpenSpec.upto lockLockedSpec)) lockLockedUptoCard

/-- THE SECOND FORM's CARD OF 'guidewaylaw06.LockPossibles'. -/
def lockPossiblesUptoCard : Claim7 := { stood := { row := lockPossiblesUptoRow, standIns := [], harness := (true, "4665e6c59ac021a89dbd5f6e06b0f4f3d331a724406db59d68bf46f66753303c"), looks := true }, kinds := [], alts := [], goes := true, laidByText := true, laidKinds := [.data, .data, .data], laidTests := true, laidLooks := .later }
def LockPossiblesUptoCardSaid : Prop := Claim7.holds Tryz.pinned (.plain (OpenSpec.upto lockPossiblesSpec)) lockPossiblesUptoCard

/-- THE SECOND FORM's CARD OF 'guidewaylaw06.LockWays'. -/
def lockWaysUptoCard : Claim7 := { stood := { row := lockWaysUptoRow, standIns := [], harness := (true, "4665e6c59ac021a89dbd5f6e06b0f4f3d331a724406db59d68bf46f66753303c"), looks := true }, kinds := [], alts := [], goes := true, laidByText := true, laidKinds := [.data, .data, .data], laidTests := true, laidLooks := .later }
def LockWaysUptoCardSaid : Prop := Claim7.holds Tryz.pinned (.plain (OpenSpec.upto lockWaysSpec)) lockWaysUptoCard

/-- THE SECOND FORM's CARD OF 'guidewaylaw06.LockQuestions'. -/
def lockQuestionsUptoCard : Claim7 := { stood := { row := lockQuestionsUptoRow, standIns := [], harness := (true, "4665e6c59ac021a89dbd5f6e06b0f4f3d331a724406db59d68bf46f66753303c"), looks := true }, kinds := [], alts := [], goes := true, laidByText := true, laidKinds := [.data, .data, .data], laidTests := true, laidLooks := .later }
def LockQuestionsUptoCardSaid : Prop := Claim7.holds Tryz.pinned (.plain (OpenSpec.upto lockQuestionsSpec)) lockQuestionsUptoCard

/-- THE SECOND FORM's CARD OF 'guidewaylaw06.LockTwoOfThree'. -/
def lockTwoOfThreeUptoCard : Claim7 := { stood := { row := lockTwoOfThreeUptoRow, standIns := [], harness := (true, "4665e6c59ac021a89dbd5f6e06b0f4f3d331a724406db59d68bf46f66753303c"), looks := true }, kinds := [], alts := [], goes := true, laidByText := true, laidKinds := [.data, .data, .data], laidTests := true, laidLooks := .later }
def LockTwoOfThreeUptoCardSaid : Prop := Claim7.holds Tryz.pinned (.plain (OpenSpec.upto lockTwoOfThreeSpec)) lockTwoOfThreeUptoCard

/-- THE SECOND FORM's CARD OF 'guidewaylaw06.LockReceives'. -/
def lockReceivesUptoCard : Claim7 := { stood := { row := lockReceivesUptoRow, standIns := [], harness := (true, "4665e6c59ac021a89dbd5f6e06b0f4f3d331a724406db59d68bf46f66753303c"), looks := true }, kinds := [], alts := [], goes := true, laidByText := true, laidKinds := [.data, .data, .data], laidTests := true, laidLooks := .later }
def LockReceivesUptoCardSaid : Prop := Claim7.holds Tryz.pinned (.plain (OpenSpec.upto lockReceivesSpec)) lockReceivesUptoCard

/-- THE SECOND FORM's CARD OF 'guidewaylaw06.LockTexts'. -/
def lockTextsUptoCard : Claim7 := { stood := { row := lockTextsUptoRow, standIns := [], harness := (true, "4665e6c59ac021a89dbd5f6e06b0f4f3d331a724406db59d68bf46f66753303c"), looks := true }, kinds := [], alts := [], goes := true, laidByText := true, laidKinds := [.data, .data, .data, .data, .sentinel, .sentinel, .widerDeep, .pinned], laidTests := true, laidLooks := .later }
def LockTextsUptoCardSaid : Prop := Claim7.holds Tryz.pinned (.plain (OpenSpec.upto lockTextsSpec)) lockTextsUptoCard

/-- THE SECOND FORM's CARD OF 'guidewaytop.TopLockBack'. -/
def topLockBackUptoCard : Claim7 := { stood := { row := topLockBackUptoRow, standIns := [], harness := (true, "4665e6c59ac021a89dbd5f6e06b0f4f3d331a724406db59d68bf46f66753303c"), looks := true }, kinds := [], alts := [], goes := true, laidByText := true, laidKinds := [.data, .data, .data], laidTests := true, laidLooks := .later }
def TopLockBackUptoCardSaid : Prop := Claim7.holds Tryz.pinned (.plain (OpenSpec.upto topLockBackSpec)) topLockBackUptoCard

/-- THE SECOND FORM's CARD OF 'guidewaytop.TopLockThere'. -/
def topLockThereUptoCard : Claim7 := { stood := { row := topLockThereUptoRow, standIns := [], harness := (true, "4665e6c59ac021a89dbd5f6e06b0f4f3d331a724406db59d68bf46f66753303c"), looks := true }, kinds := [], alts := [], goes := true, laidByText := true, laidKinds := [.data, .data, .data], laidTests := true, laidLooks := .later }
def TopLockThereUptoCardSaid : Prop := Claim7.holds Tryz.pinned (.plain (OpenSpec.upto topLockThereSpec)) topLockThereUptoCard

/-- THE SECOND FORM's CARD OF 'guidewaytop.TopLockTold'. -/
def topLockToldUptoCard : Claim7 := { stood := { row := topLockToldUptoRow, standIns := [], harness := (true, "4665e6c59ac021a89dbd5f6e06b0f4f3d331a724406db59d68bf46f66753303c"), looks := true }, kinds := [], alts := [], goes := true, laidByText := true, laidKinds := [.data, .data, .data, .data, .sentinel, .sentinel, .widerDeep, .pinned], laidTests := true, laidLooks := .later }
def TopLockToldUptoCardSaid : Prop := Claim7.holds Tryz.pinned (.plain (OpenSpec.upto topLockToldSpec)) topLockToldUptoCard
end Rows
end Go.Proofs.YtpgpimedmpeliaaGreatDoor
