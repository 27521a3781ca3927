/-
  DERIVED. GIVEN WITH THE SEED: THE CARDS: each row of YteplgmnnkdpmeaaGreatDoorRows.lean that lists a variable, with what it lists TIED to the program's text (the seventh form; the later family's looks); each row that meets fmt, with fmt's text TOLD by the authors' own Lean function (tested against real Go, not proved from fmt's source: count such statements apart). THE CARD IS WHAT COUNTS. Prove the row's statement (the work); the ties are given (YteplgmnnkdpmeaaGreatDoorTie.lean); close each card by the builder's one call (the guide's Derived/Test/ToyasCard.lean, 'card_holds'). Laid BY PROGRAM, IN A SANDBOX (cutbox-door.mjs). By AI agents, Wed Nov 11 2026. No macro, syntax, notation, axiom, sorry.
-/
import Derived.Test.YteplgmnnkdpmeaaGreatDoorRows
import GoSem.ClaimSeven
namespace Go.Proofs.YteplgmnnkdpmeaaGreatDoor
namespace Rows

/-- THE TIED CARD OF 'guidewaylaw06.LockNeverShortened'. -/
def lockNeverShortenedCard : Claim7 := { stood := { row := lockNeverShortenedRow, standIns := [], harness := (true, "99e2c83a04756e40038b6fe6bc478bd460bf8e8acb0cb9f584381f485cdb0bba"), looks := false }, kinds := [], alts := [], goes := true, laidByText := true, laidKinds := [.data, .data, .data], laidTests := true, laidLooks := .later }
def LockNeverShortenedCardSaid : Prop := Claim7.holds Tryz.pinned (.plain (OpenSpec.ofChange lockNeverShortenedSpec)) lockNeverShortenedCard

/-- THE TIED CARD OF 'guidewaylaw06.LockApplies'. -/
def lockAppliesCard : Claim7 := { stood := { row := lockAppliesRow, standIns := [], harness := (true, "99e2c83a04756e40038b6fe6bc478bd460bf8e8acb0cb9f584381f485cdb0bba"), looks := false }, kinds := [], alts := [], goes := true, laidByText := true, laidKinds := [.data, .data, .data], laidTests := true, laidLooks := .later }
def LockAppliesCardSaid : Prop := Claim7.holds Tryz.pinned (.plain (OpenSpec.ofChange lockAppliesSpec)) lockAppliesCard

/-- THE TIED CARD OF 'guidewaylaw06.LockPossibles'. -/
def lockPossiblesCard : Claim7 := { stood := { row := lockPossiblesRow, standIns := [], harness := (true, "99e2c83a04756e40038b6fe6bc478bd460bf8e8acb0cb9f584381f485cdb0bba"), looks := false }, kinds := [], alts := [], goes := true, laidByText := true, laidKinds := [.data, .data, .data], laidTests := true, laidLooks := .later }
def LockPossiblesCardSaid : Prop := Claim7.holds Tryz.pinned (.plain (OpenSpec.ofChange lockPossiblesSpec)) lockPossiblesCard

/-- THE TIED CARD OF 'guidewaylaw06.LockReceives'. -/
def lockReceivesCard : Claim7 := { stood := { row := lockReceivesRow, standIns := [], harness := (true, "99e2c83a04756e40038b6fe6bc478bd460bf8e8acb0cb9f584381f485cdb0bba"), looks := false }, kinds := [], alts := [], goes := true, laidByText := true, laidKinds := [.data, .data, .data], laidTests := true, laidLooks := .later }
def LockReceivesCardSaid : Prop := Claim7.holds Tryz.pinned (.plain (OpenSpec.ofChange lockReceivesSpec)) lockReceivesCard

/-- THE SECOND FORM's CARD OF 'guidewaylaw06.LockNeverShortened'. -/
def lockNeverShortenedUptoCard : Claim7 := { stood := { row := lockNeverShortenedUptoRow, standIns := [], harness := (true, "99e2c83a04756e40038b6fe6bc478bd460bf8e8acb0cb9f584381f485cdb0bba"), looks := false }, kinds := [], alts := [], goes := true, laidByText := true, laidKinds := [.data, .data, .data], laidTests := true, laidLooks := .later }
def LockNeverShortenedUptoCardSaid : Prop := Claim7.holds Tryz.pinned (.plain (OpenSpec.upto lockNeverShortenedSpec)) lockNeverShortenedUptoCard

/-- THE SECOND FORM's CARD OF 'guidewaylaw06.LockApplies'. -/
def lockAppliesUptoCard : Claim7 := { stood := { row := lockAppliesUptoRow, standIns := [], harness := (true, "99e2c83a04756e40038b6fe6bc478bd460bf8e8acb0cb9f584381f485cdb0bba"), looks := false }, kinds := [], alts := [], goes := true, laidByText := true, laidKinds := [.data, .data, .data], laidTests := true, laidLooks := .later }
def LockAppliesUptoCardSaid : Prop := Claim7.holds Tryz.pinned (.plain (OpenSpec.upto lockAppliesSpec)) lockAppliesUptoCard

/-- THE SECOND FORM's CARD OF 'guidewaylaw06.LockPossibles'. -/
def lockPossiblesUptoCard : Claim7 := { stood := { row := lockPossiblesUptoRow, standIns := [], harness := (true, "99e2c83a04756e40038b6fe6bc478bd460bf8e8acb0cb9f584381f485cdb0bba"), looks := false }, kinds := [], alts := [], goes := true, laidByText := true, laidKinds := [.data, .data, .data], laidTests := true, laidLooks := .later }
def LockPossiblesUptoCardSaid : Prop := Claim7.holds Tryz.pinned (.plain (OpenSpec.upto lockPossiblesSpec)) lockPossiblesUptoCard

/-- THE SECOND FORM's CARD OF 'guidewaylaw06.LockReceives'. -/
def lockReceivesUptoCard : Claim7 := { stood := { row := lockReceivesUptoRow, standIns := [], harness := (true, "99e2c83a04756e40038b6fe6bc478bd460bf8e8acb0cb9f584381f485cdb0bba"), looks := false }, kinds := [], alts := [], goes := true, laidByText := true, laidKinds := [.data, .data, .data], laidTests := true, laidLooks := .later }
def LockReceivesUptoCardSaid : Prop := Claim7.holds Tryz.pinned (.plain (OpenSpec.upto lockReceivesSpec)) lockReceivesUptoCard
end Rows
end Go.Proofs.YteplgmnnkdpmeaaGreatDoor
