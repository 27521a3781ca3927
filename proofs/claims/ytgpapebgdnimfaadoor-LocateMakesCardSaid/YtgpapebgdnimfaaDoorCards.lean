/-
  DERIVED. GIVEN WITH THE SEED: THE CARDS: each row of YtgpapebgdnimfaaDoorRows.lean that lists a variable, with what it lists TIED to the program's text (the seventh form; the later family's looks); each row that meets fmt, with fmt's text TOLD by the authors' own Lean function (tested against real Go, not proved from fmt's source: count such statements apart). THE CARD IS WHAT COUNTS. Prove the row's statement (the work); the ties are given (YtgpapebgdnimfaaDoorTie.lean); close each card by the builder's one call (the guide's Derived/Test/ToyasCard.lean, 'card_holds'). Laid BY PROGRAM, IN A SANDBOX (cutbox-door.mjs). By AI agents, Wed Nov 11 2026. No macro, syntax, notation, axiom, sorry.
-/
import Derived.Test.YtgpapebgdnimfaaDoorRows
import GoSem.ClaimSeven
namespace Go.Proofs.YtgpapebgdnimfaaDoor
namespace Rows

/-- THE TIED CARD OF 'guidewaylaw04.LocatePossibles'. -/
def locatePossiblesCard : Claim7 := { stood := { row := locatePossiblesRow, standIns := [], harness := (true, "dbbbbbe30dd77ec4bdc27b68e973f503e833abdd860f7fbc70dcc32561445b55"), looks := false }, kinds := [], alts := [], laidByText := true, laidKinds := [.data], laidTests := true, laidLooks := .later }
def LocatePossiblesCardSaid : Prop := Claim7.holds Tryd.pinned (.plain (OpenSpec.ofChange locatePossiblesSpec)) locatePossiblesCard

/-- THE TIED CARD OF 'guidewaylaw04.LocateMore'. -/
def locateMoreCard : Claim7 := { stood := { row := locateMoreRow, standIns := [], harness := (true, "dbbbbbe30dd77ec4bdc27b68e973f503e833abdd860f7fbc70dcc32561445b55"), looks := false }, kinds := [], alts := [], laidByText := true, laidKinds := [.data], laidTests := true, laidLooks := .later }
def LocateMoreCardSaid : Prop := Claim7.holds Tryd.pinned (.plain (OpenSpec.ofChange locateMoreSpec)) locateMoreCard

/-- THE TIED CARD OF 'guidewaylaw04.LocateJoins'. -/
def locateJoinsCard : Claim7 := { stood := { row := locateJoinsRow, standIns := [], harness := (true, "dbbbbbe30dd77ec4bdc27b68e973f503e833abdd860f7fbc70dcc32561445b55"), looks := false }, kinds := [], alts := [], laidByText := true, laidKinds := [.data], laidTests := true, laidLooks := .later }
def LocateJoinsCardSaid : Prop := Claim7.holds Tryd.pinned (.plain (OpenSpec.ofChange locateJoinsSpec)) locateJoinsCard

/-- THE TIED CARD OF 'guidewaylaw04.LocateSteps'. -/
def locateStepsCard : Claim7 := { stood := { row := locateStepsRow, standIns := [], harness := (true, "dbbbbbe30dd77ec4bdc27b68e973f503e833abdd860f7fbc70dcc32561445b55"), looks := false }, kinds := [], alts := [], laidByText := true, laidKinds := [.data], laidTests := true, laidLooks := .later }
def LocateStepsCardSaid : Prop := Claim7.holds Tryd.pinned (.plain (OpenSpec.ofChange locateStepsSpec)) locateStepsCard

/-- THE TIED CARD OF 'guidewaylaw04.LocateNears'. -/
def locateNearsCard : Claim7 := { stood := { row := locateNearsRow, standIns := [], harness := (true, "dbbbbbe30dd77ec4bdc27b68e973f503e833abdd860f7fbc70dcc32561445b55"), looks := false }, kinds := [], alts := [], laidByText := true, laidKinds := [.data], laidTests := true, laidLooks := .later }
def LocateNearsCardSaid : Prop := Claim7.holds Tryd.pinned (.plain (OpenSpec.ofChange locateNearsSpec)) locateNearsCard

/-- THE TIED CARD OF 'guidewaylaw04.LocateTracks'. -/
def locateTracksCard : Claim7 := { stood := { row := locateTracksRow, standIns := [], harness := (true, "dbbbbbe30dd77ec4bdc27b68e973f503e833abdd860f7fbc70dcc32561445b55"), looks := false }, kinds := [], alts := [], laidByText := true, laidKinds := [.data], laidTests := true, laidLooks := .later }
def LocateTracksCardSaid : Prop := Claim7.holds Tryd.pinned (.plain (OpenSpec.ofChange locateTracksSpec)) locateTracksCard

/-- THE TIED CARD OF 'guidewaylaw04.LocatePlaces'. -/
def locatePlacesCard : Claim7 := { stood := { row := locatePlacesRow, standIns := [], harness := (true, "dbbbbbe30dd77ec4bdc27b68e973f503e833abdd860f7fbc70dcc32561445b55"), looks := false }, kinds := [], alts := [], laidByText := true, laidKinds := [.data], laidTests := true, laidLooks := .later }
def LocatePlacesCardSaid : Prop := Claim7.holds Tryd.pinned (.plain (OpenSpec.ofChange locatePlacesSpec)) locatePlacesCard

/-- THE TIED CARD OF 'guidewaylaw04.LocateFuses'. -/
def locateFusesCard : Claim7 := { stood := { row := locateFusesRow, standIns := [], harness := (true, "dbbbbbe30dd77ec4bdc27b68e973f503e833abdd860f7fbc70dcc32561445b55"), looks := false }, kinds := [], alts := [], laidByText := true, laidKinds := [.data], laidTests := true, laidLooks := .later }
def LocateFusesCardSaid : Prop := Claim7.holds Tryd.pinned (.plain (OpenSpec.ofChange locateFusesSpec)) locateFusesCard

/-- THE TIED CARD OF 'guidewaylaw04.LocateNeverWrong'. -/
def locateNeverWrongCard : Claim7 := { stood := { row := locateNeverWrongRow, standIns := [], harness := (true, "dbbbbbe30dd77ec4bdc27b68e973f503e833abdd860f7fbc70dcc32561445b55"), looks := false }, kinds := [], alts := [], laidByText := true, laidKinds := [.data], laidTests := true, laidLooks := .later }
def LocateNeverWrongCardSaid : Prop := Claim7.holds Tryd.pinned (.plain (OpenSpec.ofChange locateNeverWrongSpec)) locateNeverWrongCard

/-- THE TIED CARD OF 'guidewaylaw04.LocateFollows'. -/
def locateFollowsCard : Claim7 := { stood := { row := locateFollowsRow, standIns := [], harness := (true, "dbbbbbe30dd77ec4bdc27b68e973f503e833abdd860f7fbc70dcc32561445b55"), looks := false }, kinds := [], alts := [], laidByText := true, laidKinds := [.data], laidTests := true, laidLooks := .later }
def LocateFollowsCardSaid : Prop := Claim7.holds Tryd.pinned (.plain (OpenSpec.ofChange locateFollowsSpec)) locateFollowsCard

/-- THE TIED CARD OF 'guidewaylaw04.LocateTrue'. -/
def locateTrueCard : Claim7 := { stood := { row := locateTrueRow, standIns := [], harness := (true, "dbbbbbe30dd77ec4bdc27b68e973f503e833abdd860f7fbc70dcc32561445b55"), looks := false }, kinds := [], alts := [], laidByText := true, laidKinds := [.data], laidTests := true, laidLooks := .later }
def LocateTrueCardSaid : Prop := Claim7.holds Tryd.pinned (.plain (OpenSpec.ofChange locateTrueSpec)) locateTrueCard

/-- THE TIED CARD OF 'guidewaylaw04.LocateDistances'. -/
def locateDistancesCard : Claim7 := { stood := { row := locateDistancesRow, standIns := [], harness := (true, "dbbbbbe30dd77ec4bdc27b68e973f503e833abdd860f7fbc70dcc32561445b55"), looks := false }, kinds := [], alts := [], laidByText := true, laidKinds := [.data], laidTests := true, laidLooks := .later }
def LocateDistancesCardSaid : Prop := Claim7.holds Tryd.pinned (.plain (OpenSpec.ofChange locateDistancesSpec)) locateDistancesCard

/-- THE TIED CARD OF 'guidewaylaw04.LocateAlways'. -/
def locateAlwaysCard : Claim7 := { stood := { row := locateAlwaysRow, standIns := [], harness := (true, "dbbbbbe30dd77ec4bdc27b68e973f503e833abdd860f7fbc70dcc32561445b55"), looks := false }, kinds := [], alts := [], laidByText := true, laidKinds := [.data], laidTests := true, laidLooks := .later }
def LocateAlwaysCardSaid : Prop := Claim7.holds Tryd.pinned (.plain (OpenSpec.ofChange locateAlwaysSpec)) locateAlwaysCard

/-- THE TIED CARD OF 'guidewaylaw04.LocateJustIf'. -/
def locateJustIfCard : Claim7 := { stood := { row := locateJustIfRow, standIns := [], harness := (true, "dbbbbbe30dd77ec4bdc27b68e973f503e833abdd860f7fbc70dcc32561445b55"), looks := false }, kinds := [], alts := [], laidByText := true, laidKinds := [.data], laidTests := true, laidLooks := .later }
def LocateJustIfCardSaid : Prop := Claim7.holds Tryd.pinned (.plain (OpenSpec.ofChange locateJustIfSpec)) locateJustIfCard

/-- THE TIED CARD OF 'guidewaylaw04.LocateMakes'. -/
def locateMakesCard : Claim7 := { stood := { row := locateMakesRow, standIns := [], harness := (true, "dbbbbbe30dd77ec4bdc27b68e973f503e833abdd860f7fbc70dcc32561445b55"), looks := false }, kinds := [], alts := [], laidByText := true, laidKinds := [.data], laidTests := true, laidLooks := .later }
def LocateMakesCardSaid : Prop := Claim7.holds Tryd.pinned (.plain (OpenSpec.ofChange locateMakesSpec)) locateMakesCard

/-- THE SECOND FORM's CARD OF 'guidewaylaw04.LocatePossibles'. -/
def locatePossiblesUptoCard : Claim7 := { stood := { row := locatePossiblesUptoRow, standIns := [], harness := (true, "dbbbbbe30dd77ec4bdc27b68e973f503e833abdd860f7fbc70dcc32561445b55"), looks := false }, kinds := [], alts := [], laidByText := true, laidKinds := [.data], laidTests := true, laidLooks := .later }
def LocatePossiblesUptoCardSaid : Prop := Claim7.holds Tryd.pinned (.plain (OpenSpec.upto locatePossiblesSpec)) locatePossiblesUptoCard

/-- THE SECOND FORM's CARD OF 'guidewaylaw04.LocateMore'. -/
def locateMoreUptoCard : Claim7 := { stood := { row := locateMoreUptoRow, standIns := [], harness := (true, "dbbbbbe30dd77ec4bdc27b68e973f503e833abdd860f7fbc70dcc32561445b55"), looks := false }, kinds := [], alts := [], laidByText := true, laidKinds := [.data], laidTests := true, laidLooks := .later }
def LocateMoreUptoCardSaid : Prop := Claim7.holds Tryd.pinned (.plain (OpenSpec.upto locateMoreSpec)) locateMoreUptoCard

/-- THE SECOND FORM's CARD OF 'guidewaylaw04.LocateJoins'. -/
def locateJoinsUptoCard : Claim7 := { stood := { row := locateJoinsUptoRow, standIns := [], harness := (true, "dbbbbbe30dd77ec4bdc27b68e973f503e833abdd860f7fbc70dcc32561445b55"), looks := false }, kinds := [], alts := [], laidByText := true, laidKinds := [.data], laidTests := true, laidLooks := .later }
def LocateJoinsUptoCardSaid : Prop := Claim7.holds Tryd.pinned (.plain (OpenSpec.upto locateJoinsSpec)) locateJoinsUptoCard

/-- THE SECOND FORM's CARD OF 'guidewaylaw04.LocateSteps'. -/
def locateStepsUptoCard : Claim7 := { stood := { row := locateStepsUptoRow, standIns := [], harness := (true, "dbbbbbe30dd77ec4bdc27b68e973f503e833abdd860f7fbc70dcc32561445b55"), looks := false }, kinds := [], alts := [], laidByText := true, laidKinds := [.data], laidTests := true, laidLooks := .later }
def LocateStepsUptoCardSaid : Prop := Claim7.holds Tryd.pinned (.plain (OpenSpec.upto locateStepsSpec)) locateStepsUptoCard

/-- THE SECOND FORM's CARD OF 'guidewaylaw04.LocateNears'. -/
def locateNearsUptoCard : Claim7 := { stood := { row := locateNearsUptoRow, standIns := [], harness := (true, "dbbbbbe30dd77ec4bdc27b68e973f503e833abdd860f7fbc70dcc32561445b55"), looks := false }, kinds := [], alts := [], laidByText := true, laidKinds := [.data], laidTests := true, laidLooks := .later }
def LocateNearsUptoCardSaid : Prop := Claim7.holds Tryd.pinned (.plain (OpenSpec.upto locateNearsSpec)) locateNearsUptoCard

/-- THE SECOND FORM's CARD OF 'guidewaylaw04.LocateTracks'. -/
def locateTracksUptoCard : Claim7 := { stood := { row := locateTracksUptoRow, standIns := [], harness := (true, "dbbbbbe30dd77ec4bdc27b68e973f503e833abdd860f7fbc70dcc32561445b55"), looks := false }, kinds := [], alts := [], laidByText := true, laidKinds := [.data], laidTests := true, laidLooks := .later }
def LocateTracksUptoCardSaid : Prop := Claim7.holds Tryd.pinned (.plain (OpenSpec.upto locateTracksSpec)) locateTracksUptoCard

/-- THE SECOND FORM's CARD OF 'guidewaylaw04.LocatePlaces'. -/
def locatePlacesUptoCard : Claim7 := { stood := { row := locatePlacesUptoRow, standIns := [], harness := (true, "dbbbbbe30dd77ec4bdc27b68e973f503e833abdd860f7fbc70dcc32561445b55"), looks := false }, kinds := [], alts := [], laidByText := true, laidKinds := [.data], laidTests := true, laidLooks := .later }
def LocatePlacesUptoCardSaid : Prop := Claim7.holds Tryd.pinned (.plain (OpenSpec.upto locatePlacesSpec)) locatePlacesUptoCard

/-- THE SECOND FORM's CARD OF 'guidewaylaw04.LocateFuses'. -/
def locateFusesUptoCard : Claim7 := { stood := { row := locateFusesUptoRow, standIns := [], harness := (true, "dbbbbbe30dd77ec4bdc27b68e973f503e833abdd860f7fbc70dcc32561445b55"), looks := false }, kinds := [], alts := [], laidByText := true, laidKinds := [.data], laidTests := true, laidLooks := .later }
def LocateFusesUptoCardSaid : Prop := Claim7.holds Tryd.pinned (.plain (OpenSpec.upto locateFusesSpec)) locateFusesUptoCard

/-- THE SECOND FORM's CARD OF 'guidewaylaw04.LocateNeverWrong'. -/
def locateNeverWrongUptoCard : Claim7 := { stood := { row := locateNeverWrongUptoRow, standIns := [], harness := (true, "dbbbbbe30dd77ec4bdc27b68e973f503e833abdd860f7fbc70dcc32561445b55"), looks := false }, kinds := [], alts := [], laidByText := true, laidKinds := [.data], laidTests := true, laidLooks := .later }
def LocateNeverWrongUptoCardSaid : Prop := Claim7.holds Tryd.pinned (.plain (OpenSpec.upto locateNeverWrongSpec)) locateNeverWrongUptoCard

/-- THE SECOND FORM's CARD OF 'guidewaylaw04.LocateFollows'. -/
def locateFollowsUptoCard : Claim7 := { stood := { row := locateFollowsUptoRow, standIns := [], harness := (true, "dbbbbbe30dd77ec4bdc27b68e973f503e833abdd860f7fbc70dcc32561445b55"), looks := false }, kinds := [], alts := [], laidByText := true, laidKinds := [.data], laidTests := true, laidLooks := .later }
def LocateFollowsUptoCardSaid : Prop := Claim7.holds Tryd.pinned (.plain (OpenSpec.upto locateFollowsSpec)) locateFollowsUptoCard

/-- THE SECOND FORM's CARD OF 'guidewaylaw04.LocateTrue'. -/
def locateTrueUptoCard : Claim7 := { stood := { row := locateTrueUptoRow, standIns := [], harness := (true, "dbbbbbe30dd77ec4bdc27b68e973f503e833abdd860f7fbc70dcc32561445b55"), looks := false }, kinds := [], alts := [], laidByText := true, laidKinds := [.data], laidTests := true, laidLooks := .later }
def LocateTrueUptoCardSaid : Prop := Claim7.holds Tryd.pinned (.plain (OpenSpec.upto locateTrueSpec)) locateTrueUptoCard

/-- THE SECOND FORM's CARD OF 'guidewaylaw04.LocateDistances'. -/
def locateDistancesUptoCard : Claim7 := { stood := { row := locateDistancesUptoRow, standIns := [], harness := (true, "dbbbbbe30dd77ec4bdc27b68e973f503e833abdd860f7fbc70dcc32561445b55"), looks := false }, kinds := [], alts := [], laidByText := true, laidKinds := [.data], laidTests := true, laidLooks := .later }
def LocateDistancesUptoCardSaid : Prop := Claim7.holds Tryd.pinned (.plain (OpenSpec.upto locateDistancesSpec)) locateDistancesUptoCard

/-- THE SECOND FORM's CARD OF 'guidewaylaw04.LocateAlways'. -/
def locateAlwaysUptoCard : Claim7 := { stood := { row := locateAlwaysUptoRow, standIns := [], harness := (true, "dbbbbbe30dd77ec4bdc27b68e973f503e833abdd860f7fbc70dcc32561445b55"), looks := false }, kinds := [], alts := [], laidByText := true, laidKinds := [.data], laidTests := true, laidLooks := .later }
def LocateAlwaysUptoCardSaid : Prop := Claim7.holds Tryd.pinned (.plain (OpenSpec.upto locateAlwaysSpec)) locateAlwaysUptoCard

/-- THE SECOND FORM's CARD OF 'guidewaylaw04.LocateJustIf'. -/
def locateJustIfUptoCard : Claim7 := { stood := { row := locateJustIfUptoRow, standIns := [], harness := (true, "dbbbbbe30dd77ec4bdc27b68e973f503e833abdd860f7fbc70dcc32561445b55"), looks := false }, kinds := [], alts := [], laidByText := true, laidKinds := [.data], laidTests := true, laidLooks := .later }
def LocateJustIfUptoCardSaid : Prop := Claim7.holds Tryd.pinned (.plain (OpenSpec.upto locateJustIfSpec)) locateJustIfUptoCard

/-- THE SECOND FORM's CARD OF 'guidewaylaw04.LocateMakes'. -/
def locateMakesUptoCard : Claim7 := { stood := { row := locateMakesUptoRow, standIns := [], harness := (true, "dbbbbbe30dd77ec4bdc27b68e973f503e833abdd860f7fbc70dcc32561445b55"), looks := false }, kinds := [], alts := [], laidByText := true, laidKinds := [.data], laidTests := true, laidLooks := .later }
def LocateMakesUptoCardSaid : Prop := Claim7.holds Tryd.pinned (.plain (OpenSpec.upto locateMakesSpec)) locateMakesUptoCard
end Rows
end Go.Proofs.YtgpapebgdnimfaaDoor
