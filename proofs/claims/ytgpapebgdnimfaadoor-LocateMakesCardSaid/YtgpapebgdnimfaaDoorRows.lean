/-
  NARROWER THAN 'FOR EVERY INPUT', by the rows' own cells (each row's printed sentence says how): LocatePossibles: laid · LocateMore: laid · LocateJoins: laid · LocateSteps: laid · LocateNears: laid · LocateTracks: laid · LocatePlaces: laid · LocateFuses: laid · LocateNeverWrong: laid · LocateFollows: laid · LocateTrue: laid · LocateDistances: laid · LocateAlways: laid · LocateJustIf: laid · LocateMakes: laid.
  DERIVED. THE GIVEN ROWS OF THIS SEAT. 15 by the template 'for every input the law returns true; each argument reads behind the call as it read before'; 0 by the template 'total and deterministic' (their statements: YtgpapebgdnimfaaDoorTotals.lean).
  GIVEN WITH THE SEED: the statements are not yours to turn. If you find one false, say at which input.
  Laid BY PROGRAM, IN A SANDBOX (cutbox-rows.mjs): the forced cells as the released guide's own fill.sh prints them over the translation 13412954bfa84bd8… (all of the seat's roots in one cut). By AI agents, Wed Nov 11 2026. No macro, syntax, notation, axiom, sorry.
-/
import Derived.Test.YtgpapebgdnimfaaDoorChecked
import GoSem.Claim
import GoSem.ClaimJoined
import GoSem.ClaimMapViews
import Derived.JoinedTies
import Derived.KernelRfl
namespace Go.Proofs.YtgpapebgdnimfaaDoor
/- THE CELL 'sum', in the pinned program and in every row, IS THE sha256 OF THE DUMP (.gsa) THAT YtgpapebgdnimfaaDoorProg.lean LOADS. Nothing in Lean hashes anything: it is a label: what it is worth is what the hold of that sum in a sandbox is worth. -/
noncomputable def Tryd.pinned : Pinned := { name := "ytgpapebgdnimfaadoor", sum := "13412954bfa84bd824eda4ecb5ee21cefc3bddd111f0b19edbb22c766a50dcfc", checked := Tryd.checked }
namespace Rows
def none {H : Type} : Left H := { results := [], args := [] }

/- WHAT THE LISTED PACKAGE-LEVEL VARIABLES READ AS WHEN THE CALL BEGINS. Each datum BY PROGRAM (the guide's laid-datum.mjs) off the statement by which the dump's own 'gosem.cut.vars' lays the variable. In a bare row this is a premise. The card (YtgpapebgdnimfaaDoorCards.lean) ties it to the program's text. -/
def laid_guideway_locate_turn {H : Type} : DataW H := .agg [.lit (.int .i64 0), .lit (.int .i64 1), .lit (.int .i64 3), .lit (.int .i64 2)]

/-- 'guidewaylaw04.LocatePossibles': WHATEVER THE INPUT: true; the input reads as it did. -/
def locatePossiblesSpec : ChangeSpec := { name := "locatePossibles", fn := fun _ => fun
  | [d1, d2] => { results := [.lit (.bool true)], args := [d1, d2] }
  | _ => none }
def locatePossiblesRow : OpenClaim := { program := "ytgpapebgdnimfaadoor", sum := "13412954bfa84bd824eda4ecb5ee21cefc3bddd111f0b19edbb22c766a50dcfc", func := "guideway/guidewaylaw04.LocatePossibles", spec := "locatePossibles", unfollowed := true, recurses := true, named := ["guideway/locate.turn"], apart := false, laid := [("guideway/locate.turn", laid_guideway_locate_turn)] }
def LocatePossiblesSaid : Prop := locatePossiblesRow.holds Tryd.pinned (OpenSpec.ofChange locatePossiblesSpec)

/-- ITS FALSE NEIGHBOUR: 'it returns false'. Refute it at one input. -/
def locatePossiblesWrong : ChangeSpec := { name := "locatePossibles", fn := fun _ => fun
  | [d1, d2] => { results := [.lit (.bool false)], args := [d1, d2] }
  | _ => none }
def LocatePossiblesWrongFalsely : Prop := locatePossiblesRow.holds Tryd.pinned (OpenSpec.ofChange locatePossiblesWrong)

/-- 'guidewaylaw04.LocateMore': WHATEVER THE INPUT: true; the input reads as it did. -/
def locateMoreSpec : ChangeSpec := { name := "locateMore", fn := fun _ => fun
  | [d1, d2, d3] => { results := [.lit (.bool true)], args := [d1, d2, d3] }
  | _ => none }
def locateMoreRow : OpenClaim := { program := "ytgpapebgdnimfaadoor", sum := "13412954bfa84bd824eda4ecb5ee21cefc3bddd111f0b19edbb22c766a50dcfc", func := "guideway/guidewaylaw04.LocateMore", spec := "locateMore", unfollowed := true, recurses := true, named := ["guideway/locate.turn"], apart := false, laid := [("guideway/locate.turn", laid_guideway_locate_turn)] }
def LocateMoreSaid : Prop := locateMoreRow.holds Tryd.pinned (OpenSpec.ofChange locateMoreSpec)

/-- ITS FALSE NEIGHBOUR: 'it returns false'. Refute it at one input. -/
def locateMoreWrong : ChangeSpec := { name := "locateMore", fn := fun _ => fun
  | [d1, d2, d3] => { results := [.lit (.bool false)], args := [d1, d2, d3] }
  | _ => none }
def LocateMoreWrongFalsely : Prop := locateMoreRow.holds Tryd.pinned (OpenSpec.ofChange locateMoreWrong)

/-- 'guidewaylaw04.LocateJoins': WHATEVER THE INPUT: true; the input reads as it did. -/
def locateJoinsSpec : ChangeSpec := { name := "locateJoins", fn := fun _ => fun
  | [d1, d2] => { results := [.lit (.bool true)], args := [d1, d2] }
  | _ => none }
def locateJoinsRow : OpenClaim := { program := "ytgpapebgdnimfaadoor", sum := "13412954bfa84bd824eda4ecb5ee21cefc3bddd111f0b19edbb22c766a50dcfc", func := "guideway/guidewaylaw04.LocateJoins", spec := "locateJoins", unfollowed := true, recurses := true, named := ["guideway/locate.turn"], apart := false, laid := [("guideway/locate.turn", laid_guideway_locate_turn)] }
def LocateJoinsSaid : Prop := locateJoinsRow.holds Tryd.pinned (OpenSpec.ofChange locateJoinsSpec)

/-- ITS FALSE NEIGHBOUR: 'it returns false'. Refute it at one input. -/
def locateJoinsWrong : ChangeSpec := { name := "locateJoins", fn := fun _ => fun
  | [d1, d2] => { results := [.lit (.bool false)], args := [d1, d2] }
  | _ => none }
def LocateJoinsWrongFalsely : Prop := locateJoinsRow.holds Tryd.pinned (OpenSpec.ofChange locateJoinsWrong)

/-- 'guidewaylaw04.LocateSteps': WHATEVER THE INPUT: true; the input reads as it did. -/
def locateStepsSpec : ChangeSpec := { name := "locateSteps", fn := fun _ => fun
  | [d1, d2] => { results := [.lit (.bool true)], args := [d1, d2] }
  | _ => none }
def locateStepsRow : OpenClaim := { program := "ytgpapebgdnimfaadoor", sum := "13412954bfa84bd824eda4ecb5ee21cefc3bddd111f0b19edbb22c766a50dcfc", func := "guideway/guidewaylaw04.LocateSteps", spec := "locateSteps", unfollowed := true, recurses := true, named := ["guideway/locate.turn"], apart := false, laid := [("guideway/locate.turn", laid_guideway_locate_turn)] }
def LocateStepsSaid : Prop := locateStepsRow.holds Tryd.pinned (OpenSpec.ofChange locateStepsSpec)

/-- ITS FALSE NEIGHBOUR: 'it returns false'. Refute it at one input. -/
def locateStepsWrong : ChangeSpec := { name := "locateSteps", fn := fun _ => fun
  | [d1, d2] => { results := [.lit (.bool false)], args := [d1, d2] }
  | _ => none }
def LocateStepsWrongFalsely : Prop := locateStepsRow.holds Tryd.pinned (OpenSpec.ofChange locateStepsWrong)

/-- 'guidewaylaw04.LocateNears': WHATEVER THE INPUT: true; the input reads as it did. -/
def locateNearsSpec : ChangeSpec := { name := "locateNears", fn := fun _ => fun
  | [d1, d2] => { results := [.lit (.bool true)], args := [d1, d2] }
  | _ => none }
def locateNearsRow : OpenClaim := { program := "ytgpapebgdnimfaadoor", sum := "13412954bfa84bd824eda4ecb5ee21cefc3bddd111f0b19edbb22c766a50dcfc", func := "guideway/guidewaylaw04.LocateNears", spec := "locateNears", unfollowed := true, recurses := true, named := ["guideway/locate.turn"], apart := false, laid := [("guideway/locate.turn", laid_guideway_locate_turn)] }
def LocateNearsSaid : Prop := locateNearsRow.holds Tryd.pinned (OpenSpec.ofChange locateNearsSpec)

/-- ITS FALSE NEIGHBOUR: 'it returns false'. Refute it at one input. -/
def locateNearsWrong : ChangeSpec := { name := "locateNears", fn := fun _ => fun
  | [d1, d2] => { results := [.lit (.bool false)], args := [d1, d2] }
  | _ => none }
def LocateNearsWrongFalsely : Prop := locateNearsRow.holds Tryd.pinned (OpenSpec.ofChange locateNearsWrong)

/-- 'guidewaylaw04.LocateTracks': WHATEVER THE INPUT: true; the input reads as it did. -/
def locateTracksSpec : ChangeSpec := { name := "locateTracks", fn := fun _ => fun
  | [d1, d2] => { results := [.lit (.bool true)], args := [d1, d2] }
  | _ => none }
def locateTracksRow : OpenClaim := { program := "ytgpapebgdnimfaadoor", sum := "13412954bfa84bd824eda4ecb5ee21cefc3bddd111f0b19edbb22c766a50dcfc", func := "guideway/guidewaylaw04.LocateTracks", spec := "locateTracks", unfollowed := true, recurses := true, named := ["guideway/locate.turn"], apart := false, laid := [("guideway/locate.turn", laid_guideway_locate_turn)] }
def LocateTracksSaid : Prop := locateTracksRow.holds Tryd.pinned (OpenSpec.ofChange locateTracksSpec)

/-- ITS FALSE NEIGHBOUR: 'it returns false'. Refute it at one input. -/
def locateTracksWrong : ChangeSpec := { name := "locateTracks", fn := fun _ => fun
  | [d1, d2] => { results := [.lit (.bool false)], args := [d1, d2] }
  | _ => none }
def LocateTracksWrongFalsely : Prop := locateTracksRow.holds Tryd.pinned (OpenSpec.ofChange locateTracksWrong)

/-- 'guidewaylaw04.LocatePlaces': WHATEVER THE INPUT: true; the input reads as it did. -/
def locatePlacesSpec : ChangeSpec := { name := "locatePlaces", fn := fun _ => fun
  | [d1, d2, d3] => { results := [.lit (.bool true)], args := [d1, d2, d3] }
  | _ => none }
def locatePlacesRow : OpenClaim := { program := "ytgpapebgdnimfaadoor", sum := "13412954bfa84bd824eda4ecb5ee21cefc3bddd111f0b19edbb22c766a50dcfc", func := "guideway/guidewaylaw04.LocatePlaces", spec := "locatePlaces", unfollowed := true, recurses := true, named := ["guideway/locate.turn"], apart := false, laid := [("guideway/locate.turn", laid_guideway_locate_turn)] }
def LocatePlacesSaid : Prop := locatePlacesRow.holds Tryd.pinned (OpenSpec.ofChange locatePlacesSpec)

/-- ITS FALSE NEIGHBOUR: 'it returns false'. Refute it at one input. -/
def locatePlacesWrong : ChangeSpec := { name := "locatePlaces", fn := fun _ => fun
  | [d1, d2, d3] => { results := [.lit (.bool false)], args := [d1, d2, d3] }
  | _ => none }
def LocatePlacesWrongFalsely : Prop := locatePlacesRow.holds Tryd.pinned (OpenSpec.ofChange locatePlacesWrong)

/-- 'guidewaylaw04.LocateFuses': WHATEVER THE INPUT: true; the input reads as it did. -/
def locateFusesSpec : ChangeSpec := { name := "locateFuses", fn := fun _ => fun
  | [d1, d2, d3] => { results := [.lit (.bool true)], args := [d1, d2, d3] }
  | _ => none }
def locateFusesRow : OpenClaim := { program := "ytgpapebgdnimfaadoor", sum := "13412954bfa84bd824eda4ecb5ee21cefc3bddd111f0b19edbb22c766a50dcfc", func := "guideway/guidewaylaw04.LocateFuses", spec := "locateFuses", unfollowed := true, recurses := true, named := ["guideway/locate.turn"], apart := false, laid := [("guideway/locate.turn", laid_guideway_locate_turn)] }
def LocateFusesSaid : Prop := locateFusesRow.holds Tryd.pinned (OpenSpec.ofChange locateFusesSpec)

/-- ITS FALSE NEIGHBOUR: 'it returns false'. Refute it at one input. -/
def locateFusesWrong : ChangeSpec := { name := "locateFuses", fn := fun _ => fun
  | [d1, d2, d3] => { results := [.lit (.bool false)], args := [d1, d2, d3] }
  | _ => none }
def LocateFusesWrongFalsely : Prop := locateFusesRow.holds Tryd.pinned (OpenSpec.ofChange locateFusesWrong)

/-- 'guidewaylaw04.LocateNeverWrong': WHATEVER THE INPUT: true; the input reads as it did. -/
def locateNeverWrongSpec : ChangeSpec := { name := "locateNeverWrong", fn := fun _ => fun
  | [d1, d2] => { results := [.lit (.bool true)], args := [d1, d2] }
  | _ => none }
def locateNeverWrongRow : OpenClaim := { program := "ytgpapebgdnimfaadoor", sum := "13412954bfa84bd824eda4ecb5ee21cefc3bddd111f0b19edbb22c766a50dcfc", func := "guideway/guidewaylaw04.LocateNeverWrong", spec := "locateNeverWrong", unfollowed := true, recurses := true, named := ["guideway/locate.turn"], apart := false, laid := [("guideway/locate.turn", laid_guideway_locate_turn)] }
def LocateNeverWrongSaid : Prop := locateNeverWrongRow.holds Tryd.pinned (OpenSpec.ofChange locateNeverWrongSpec)

/-- ITS FALSE NEIGHBOUR: 'it returns false'. Refute it at one input. -/
def locateNeverWrongWrong : ChangeSpec := { name := "locateNeverWrong", fn := fun _ => fun
  | [d1, d2] => { results := [.lit (.bool false)], args := [d1, d2] }
  | _ => none }
def LocateNeverWrongWrongFalsely : Prop := locateNeverWrongRow.holds Tryd.pinned (OpenSpec.ofChange locateNeverWrongWrong)

/-- 'guidewaylaw04.LocateFollows': WHATEVER THE INPUT: true; the input reads as it did. -/
def locateFollowsSpec : ChangeSpec := { name := "locateFollows", fn := fun _ => fun
  | [d1, d2] => { results := [.lit (.bool true)], args := [d1, d2] }
  | _ => none }
def locateFollowsRow : OpenClaim := { program := "ytgpapebgdnimfaadoor", sum := "13412954bfa84bd824eda4ecb5ee21cefc3bddd111f0b19edbb22c766a50dcfc", func := "guideway/guidewaylaw04.LocateFollows", spec := "locateFollows", unfollowed := true, recurses := true, named := ["guideway/locate.turn"], apart := false, laid := [("guideway/locate.turn", laid_guideway_locate_turn)] }
def LocateFollowsSaid : Prop := locateFollowsRow.holds Tryd.pinned (OpenSpec.ofChange locateFollowsSpec)

/-- ITS FALSE NEIGHBOUR: 'it returns false'. Refute it at one input. -/
def locateFollowsWrong : ChangeSpec := { name := "locateFollows", fn := fun _ => fun
  | [d1, d2] => { results := [.lit (.bool false)], args := [d1, d2] }
  | _ => none }
def LocateFollowsWrongFalsely : Prop := locateFollowsRow.holds Tryd.pinned (OpenSpec.ofChange locateFollowsWrong)

/-- 'guidewaylaw04.LocateTrue': WHATEVER THE INPUT: true; the input reads as it did. -/
def locateTrueSpec : ChangeSpec := { name := "locateTrue", fn := fun _ => fun
  | [d1, d2, d3] => { results := [.lit (.bool true)], args := [d1, d2, d3] }
  | _ => none }
def locateTrueRow : OpenClaim := { program := "ytgpapebgdnimfaadoor", sum := "13412954bfa84bd824eda4ecb5ee21cefc3bddd111f0b19edbb22c766a50dcfc", func := "guideway/guidewaylaw04.LocateTrue", spec := "locateTrue", unfollowed := true, recurses := true, named := ["guideway/locate.turn"], apart := false, laid := [("guideway/locate.turn", laid_guideway_locate_turn)] }
def LocateTrueSaid : Prop := locateTrueRow.holds Tryd.pinned (OpenSpec.ofChange locateTrueSpec)

/-- ITS FALSE NEIGHBOUR: 'it returns false'. Refute it at one input. -/
def locateTrueWrong : ChangeSpec := { name := "locateTrue", fn := fun _ => fun
  | [d1, d2, d3] => { results := [.lit (.bool false)], args := [d1, d2, d3] }
  | _ => none }
def LocateTrueWrongFalsely : Prop := locateTrueRow.holds Tryd.pinned (OpenSpec.ofChange locateTrueWrong)

/-- 'guidewaylaw04.LocateDistances': WHATEVER THE INPUT: true; the input reads as it did. -/
def locateDistancesSpec : ChangeSpec := { name := "locateDistances", fn := fun _ => fun
  | [d1, d2, d3] => { results := [.lit (.bool true)], args := [d1, d2, d3] }
  | _ => none }
def locateDistancesRow : OpenClaim := { program := "ytgpapebgdnimfaadoor", sum := "13412954bfa84bd824eda4ecb5ee21cefc3bddd111f0b19edbb22c766a50dcfc", func := "guideway/guidewaylaw04.LocateDistances", spec := "locateDistances", unfollowed := true, recurses := true, named := ["guideway/locate.turn"], apart := false, laid := [("guideway/locate.turn", laid_guideway_locate_turn)] }
def LocateDistancesSaid : Prop := locateDistancesRow.holds Tryd.pinned (OpenSpec.ofChange locateDistancesSpec)

/-- ITS FALSE NEIGHBOUR: 'it returns false'. Refute it at one input. -/
def locateDistancesWrong : ChangeSpec := { name := "locateDistances", fn := fun _ => fun
  | [d1, d2, d3] => { results := [.lit (.bool false)], args := [d1, d2, d3] }
  | _ => none }
def LocateDistancesWrongFalsely : Prop := locateDistancesRow.holds Tryd.pinned (OpenSpec.ofChange locateDistancesWrong)

/-- 'guidewaylaw04.LocateAlways': WHATEVER THE INPUT: true; the input reads as it did. -/
def locateAlwaysSpec : ChangeSpec := { name := "locateAlways", fn := fun _ => fun
  | [d] => { results := [.lit (.bool true)], args := [d] }
  | _ => none }
def locateAlwaysRow : OpenClaim := { program := "ytgpapebgdnimfaadoor", sum := "13412954bfa84bd824eda4ecb5ee21cefc3bddd111f0b19edbb22c766a50dcfc", func := "guideway/guidewaylaw04.LocateAlways", spec := "locateAlways", unfollowed := true, recurses := true, named := ["guideway/locate.turn"], apart := false, laid := [("guideway/locate.turn", laid_guideway_locate_turn)] }
def LocateAlwaysSaid : Prop := locateAlwaysRow.holds Tryd.pinned (OpenSpec.ofChange locateAlwaysSpec)

/-- ITS FALSE NEIGHBOUR: 'it returns false'. Refute it at one input. -/
def locateAlwaysWrong : ChangeSpec := { name := "locateAlways", fn := fun _ => fun
  | [d] => { results := [.lit (.bool false)], args := [d] }
  | _ => none }
def LocateAlwaysWrongFalsely : Prop := locateAlwaysRow.holds Tryd.pinned (OpenSpec.ofChange locateAlwaysWrong)

/-- 'guidewaylaw04.LocateJustIf': WHATEVER THE INPUT: true; the input reads as it did. -/
def locateJustIfSpec : ChangeSpec := { name := "locateJustIf", fn := fun _ => fun
  | [d1, d2] => { results := [.lit (.bool true)], args := [d1, d2] }
  | _ => none }
def locateJustIfRow : OpenClaim := { program := "ytgpapebgdnimfaadoor", sum := "13412954bfa84bd824eda4ecb5ee21cefc3bddd111f0b19edbb22c766a50dcfc", func := "guideway/guidewaylaw04.LocateJustIf", spec := "locateJustIf", unfollowed := true, recurses := true, named := ["guideway/locate.turn"], apart := false, laid := [("guideway/locate.turn", laid_guideway_locate_turn)] }
def LocateJustIfSaid : Prop := locateJustIfRow.holds Tryd.pinned (OpenSpec.ofChange locateJustIfSpec)

/-- ITS FALSE NEIGHBOUR: 'it returns false'. Refute it at one input. -/
def locateJustIfWrong : ChangeSpec := { name := "locateJustIf", fn := fun _ => fun
  | [d1, d2] => { results := [.lit (.bool false)], args := [d1, d2] }
  | _ => none }
def LocateJustIfWrongFalsely : Prop := locateJustIfRow.holds Tryd.pinned (OpenSpec.ofChange locateJustIfWrong)

/-- 'guidewaylaw04.LocateMakes': WHATEVER THE INPUT: true; the input reads as it did. -/
def locateMakesSpec : ChangeSpec := { name := "locateMakes", fn := fun _ => fun
  | [d1, d2, d3] => { results := [.lit (.bool true)], args := [d1, d2, d3] }
  | _ => none }
def locateMakesRow : OpenClaim := { program := "ytgpapebgdnimfaadoor", sum := "13412954bfa84bd824eda4ecb5ee21cefc3bddd111f0b19edbb22c766a50dcfc", func := "guideway/guidewaylaw04.LocateMakes", spec := "locateMakes", unfollowed := true, recurses := true, named := ["guideway/locate.turn"], apart := false, laid := [("guideway/locate.turn", laid_guideway_locate_turn)] }
def LocateMakesSaid : Prop := locateMakesRow.holds Tryd.pinned (OpenSpec.ofChange locateMakesSpec)

/-- ITS FALSE NEIGHBOUR: 'it returns false'. Refute it at one input. -/
def locateMakesWrong : ChangeSpec := { name := "locateMakes", fn := fun _ => fun
  | [d1, d2, d3] => { results := [.lit (.bool false)], args := [d1, d2, d3] }
  | _ => none }
def LocateMakesWrongFalsely : Prop := locateMakesRow.holds Tryd.pinned (OpenSpec.ofChange locateMakesWrong)

/- THE SECOND FORM. 'bulk': how many values and letters a reading holds, each counted each time it is reached (what is shared counts as often as it is met; a slice's spare places count too). A statement '..UptoSaid' is the law's where the arguments, and the package variables that the reading takes, are together of bulk at most 1048576: NARROWER than '..Said'. Prove '..Said' where nothing that the law and all that it calls make is longer than what came in: it says more and counts as full. Else prove '..UptoSaid'. A law counts once. -/
mutual
def uptoBulk {H : Type} : DataW H → Nat
  | .lit (.string bytes) => bytes.length + 1
  | .lit _ => 1
  | .nil => 1
  | .ptr d => uptoBulk d + 1
  | .slice elems spare => uptoBulkAll elems + uptoBulkAll spare + 1
  | .agg parts => uptoBulkAll parts + 1
  | .iface _ d => uptoBulk d + 1
  | .map entries => uptoBulkEntries entries + 1
  | .held _ => 1
def uptoBulkAll {H : Type} : List (DataW H) → Nat
  | [] => 0
  | d :: r => uptoBulk d + uptoBulkAll r
def uptoBulkEntries {H : Type} : List (Lit × DataW H) → Nat
  | [] => 0
  | x :: r => uptoBulkEntry x + uptoBulkEntries r
def uptoBulkEntry {H : Type} : Lit × DataW H → Nat
  | (.string bytes, d) => bytes.length + uptoBulk d + 1
  | (_, d) => uptoBulk d + 1
 end
def uptoSmall : (H : Type) → List (DataW H) → Bool := fun _ ds => decide (uptoBulkAll ds ≤ 1048576)
def OpenSpec.upto (s : _root_.Go.ChangeSpec) : _root_.Go.OpenSpec := { _root_.Go.OpenSpec.ofChange s with cond := some uptoSmall }

/-- 'guidewaylaw04.LocatePossibles', WHERE WHAT IT READS IS OF BULK AT MOST 1048576: true; the input reads as it did. -/
def locatePossiblesUptoRow : OpenClaim := { program := "ytgpapebgdnimfaadoor", sum := "13412954bfa84bd824eda4ecb5ee21cefc3bddd111f0b19edbb22c766a50dcfc", func := "guideway/guidewaylaw04.LocatePossibles", spec := "locatePossibles", unfollowed := true, recurses := true, named := ["guideway/locate.turn"], apart := false, laid := [("guideway/locate.turn", laid_guideway_locate_turn)], narrowed := true }
def LocatePossiblesUptoSaid : Prop := locatePossiblesUptoRow.holds Tryd.pinned (OpenSpec.upto locatePossiblesSpec)

/-- 'guidewaylaw04.LocateMore', WHERE WHAT IT READS IS OF BULK AT MOST 1048576: true; the input reads as it did. -/
def locateMoreUptoRow : OpenClaim := { program := "ytgpapebgdnimfaadoor", sum := "13412954bfa84bd824eda4ecb5ee21cefc3bddd111f0b19edbb22c766a50dcfc", func := "guideway/guidewaylaw04.LocateMore", spec := "locateMore", unfollowed := true, recurses := true, named := ["guideway/locate.turn"], apart := false, laid := [("guideway/locate.turn", laid_guideway_locate_turn)], narrowed := true }
def LocateMoreUptoSaid : Prop := locateMoreUptoRow.holds Tryd.pinned (OpenSpec.upto locateMoreSpec)

/-- 'guidewaylaw04.LocateJoins', WHERE WHAT IT READS IS OF BULK AT MOST 1048576: true; the input reads as it did. -/
def locateJoinsUptoRow : OpenClaim := { program := "ytgpapebgdnimfaadoor", sum := "13412954bfa84bd824eda4ecb5ee21cefc3bddd111f0b19edbb22c766a50dcfc", func := "guideway/guidewaylaw04.LocateJoins", spec := "locateJoins", unfollowed := true, recurses := true, named := ["guideway/locate.turn"], apart := false, laid := [("guideway/locate.turn", laid_guideway_locate_turn)], narrowed := true }
def LocateJoinsUptoSaid : Prop := locateJoinsUptoRow.holds Tryd.pinned (OpenSpec.upto locateJoinsSpec)

/-- 'guidewaylaw04.LocateSteps', WHERE WHAT IT READS IS OF BULK AT MOST 1048576: true; the input reads as it did. -/
def locateStepsUptoRow : OpenClaim := { program := "ytgpapebgdnimfaadoor", sum := "13412954bfa84bd824eda4ecb5ee21cefc3bddd111f0b19edbb22c766a50dcfc", func := "guideway/guidewaylaw04.LocateSteps", spec := "locateSteps", unfollowed := true, recurses := true, named := ["guideway/locate.turn"], apart := false, laid := [("guideway/locate.turn", laid_guideway_locate_turn)], narrowed := true }
def LocateStepsUptoSaid : Prop := locateStepsUptoRow.holds Tryd.pinned (OpenSpec.upto locateStepsSpec)

/-- 'guidewaylaw04.LocateNears', WHERE WHAT IT READS IS OF BULK AT MOST 1048576: true; the input reads as it did. -/
def locateNearsUptoRow : OpenClaim := { program := "ytgpapebgdnimfaadoor", sum := "13412954bfa84bd824eda4ecb5ee21cefc3bddd111f0b19edbb22c766a50dcfc", func := "guideway/guidewaylaw04.LocateNears", spec := "locateNears", unfollowed := true, recurses := true, named := ["guideway/locate.turn"], apart := false, laid := [("guideway/locate.turn", laid_guideway_locate_turn)], narrowed := true }
def LocateNearsUptoSaid : Prop := locateNearsUptoRow.holds Tryd.pinned (OpenSpec.upto locateNearsSpec)

/-- 'guidewaylaw04.LocateTracks', WHERE WHAT IT READS IS OF BULK AT MOST 1048576: true; the input reads as it did. -/
def locateTracksUptoRow : OpenClaim := { program := "ytgpapebgdnimfaadoor", sum := "13412954bfa84bd824eda4ecb5ee21cefc3bddd111f0b19edbb22c766a50dcfc", func := "guideway/guidewaylaw04.LocateTracks", spec := "locateTracks", unfollowed := true, recurses := true, named := ["guideway/locate.turn"], apart := false, laid := [("guideway/locate.turn", laid_guideway_locate_turn)], narrowed := true }
def LocateTracksUptoSaid : Prop := locateTracksUptoRow.holds Tryd.pinned (OpenSpec.upto locateTracksSpec)

/-- 'guidewaylaw04.LocatePlaces', WHERE WHAT IT READS IS OF BULK AT MOST 1048576: true; the input reads as it did. -/
def locatePlacesUptoRow : OpenClaim := { program := "ytgpapebgdnimfaadoor", sum := "13412954bfa84bd824eda4ecb5ee21cefc3bddd111f0b19edbb22c766a50dcfc", func := "guideway/guidewaylaw04.LocatePlaces", spec := "locatePlaces", unfollowed := true, recurses := true, named := ["guideway/locate.turn"], apart := false, laid := [("guideway/locate.turn", laid_guideway_locate_turn)], narrowed := true }
def LocatePlacesUptoSaid : Prop := locatePlacesUptoRow.holds Tryd.pinned (OpenSpec.upto locatePlacesSpec)

/-- 'guidewaylaw04.LocateFuses', WHERE WHAT IT READS IS OF BULK AT MOST 1048576: true; the input reads as it did. -/
def locateFusesUptoRow : OpenClaim := { program := "ytgpapebgdnimfaadoor", sum := "13412954bfa84bd824eda4ecb5ee21cefc3bddd111f0b19edbb22c766a50dcfc", func := "guideway/guidewaylaw04.LocateFuses", spec := "locateFuses", unfollowed := true, recurses := true, named := ["guideway/locate.turn"], apart := false, laid := [("guideway/locate.turn", laid_guideway_locate_turn)], narrowed := true }
def LocateFusesUptoSaid : Prop := locateFusesUptoRow.holds Tryd.pinned (OpenSpec.upto locateFusesSpec)

/-- 'guidewaylaw04.LocateNeverWrong', WHERE WHAT IT READS IS OF BULK AT MOST 1048576: true; the input reads as it did. -/
def locateNeverWrongUptoRow : OpenClaim := { program := "ytgpapebgdnimfaadoor", sum := "13412954bfa84bd824eda4ecb5ee21cefc3bddd111f0b19edbb22c766a50dcfc", func := "guideway/guidewaylaw04.LocateNeverWrong", spec := "locateNeverWrong", unfollowed := true, recurses := true, named := ["guideway/locate.turn"], apart := false, laid := [("guideway/locate.turn", laid_guideway_locate_turn)], narrowed := true }
def LocateNeverWrongUptoSaid : Prop := locateNeverWrongUptoRow.holds Tryd.pinned (OpenSpec.upto locateNeverWrongSpec)

/-- 'guidewaylaw04.LocateFollows', WHERE WHAT IT READS IS OF BULK AT MOST 1048576: true; the input reads as it did. -/
def locateFollowsUptoRow : OpenClaim := { program := "ytgpapebgdnimfaadoor", sum := "13412954bfa84bd824eda4ecb5ee21cefc3bddd111f0b19edbb22c766a50dcfc", func := "guideway/guidewaylaw04.LocateFollows", spec := "locateFollows", unfollowed := true, recurses := true, named := ["guideway/locate.turn"], apart := false, laid := [("guideway/locate.turn", laid_guideway_locate_turn)], narrowed := true }
def LocateFollowsUptoSaid : Prop := locateFollowsUptoRow.holds Tryd.pinned (OpenSpec.upto locateFollowsSpec)

/-- 'guidewaylaw04.LocateTrue', WHERE WHAT IT READS IS OF BULK AT MOST 1048576: true; the input reads as it did. -/
def locateTrueUptoRow : OpenClaim := { program := "ytgpapebgdnimfaadoor", sum := "13412954bfa84bd824eda4ecb5ee21cefc3bddd111f0b19edbb22c766a50dcfc", func := "guideway/guidewaylaw04.LocateTrue", spec := "locateTrue", unfollowed := true, recurses := true, named := ["guideway/locate.turn"], apart := false, laid := [("guideway/locate.turn", laid_guideway_locate_turn)], narrowed := true }
def LocateTrueUptoSaid : Prop := locateTrueUptoRow.holds Tryd.pinned (OpenSpec.upto locateTrueSpec)

/-- 'guidewaylaw04.LocateDistances', WHERE WHAT IT READS IS OF BULK AT MOST 1048576: true; the input reads as it did. -/
def locateDistancesUptoRow : OpenClaim := { program := "ytgpapebgdnimfaadoor", sum := "13412954bfa84bd824eda4ecb5ee21cefc3bddd111f0b19edbb22c766a50dcfc", func := "guideway/guidewaylaw04.LocateDistances", spec := "locateDistances", unfollowed := true, recurses := true, named := ["guideway/locate.turn"], apart := false, laid := [("guideway/locate.turn", laid_guideway_locate_turn)], narrowed := true }
def LocateDistancesUptoSaid : Prop := locateDistancesUptoRow.holds Tryd.pinned (OpenSpec.upto locateDistancesSpec)

/-- 'guidewaylaw04.LocateAlways', WHERE WHAT IT READS IS OF BULK AT MOST 1048576: true; the input reads as it did. -/
def locateAlwaysUptoRow : OpenClaim := { program := "ytgpapebgdnimfaadoor", sum := "13412954bfa84bd824eda4ecb5ee21cefc3bddd111f0b19edbb22c766a50dcfc", func := "guideway/guidewaylaw04.LocateAlways", spec := "locateAlways", unfollowed := true, recurses := true, named := ["guideway/locate.turn"], apart := false, laid := [("guideway/locate.turn", laid_guideway_locate_turn)], narrowed := true }
def LocateAlwaysUptoSaid : Prop := locateAlwaysUptoRow.holds Tryd.pinned (OpenSpec.upto locateAlwaysSpec)

/-- 'guidewaylaw04.LocateJustIf', WHERE WHAT IT READS IS OF BULK AT MOST 1048576: true; the input reads as it did. -/
def locateJustIfUptoRow : OpenClaim := { program := "ytgpapebgdnimfaadoor", sum := "13412954bfa84bd824eda4ecb5ee21cefc3bddd111f0b19edbb22c766a50dcfc", func := "guideway/guidewaylaw04.LocateJustIf", spec := "locateJustIf", unfollowed := true, recurses := true, named := ["guideway/locate.turn"], apart := false, laid := [("guideway/locate.turn", laid_guideway_locate_turn)], narrowed := true }
def LocateJustIfUptoSaid : Prop := locateJustIfUptoRow.holds Tryd.pinned (OpenSpec.upto locateJustIfSpec)

/-- 'guidewaylaw04.LocateMakes', WHERE WHAT IT READS IS OF BULK AT MOST 1048576: true; the input reads as it did. -/
def locateMakesUptoRow : OpenClaim := { program := "ytgpapebgdnimfaadoor", sum := "13412954bfa84bd824eda4ecb5ee21cefc3bddd111f0b19edbb22c766a50dcfc", func := "guideway/guidewaylaw04.LocateMakes", spec := "locateMakes", unfollowed := true, recurses := true, named := ["guideway/locate.turn"], apart := false, laid := [("guideway/locate.turn", laid_guideway_locate_turn)], narrowed := true }
def LocateMakesUptoSaid : Prop := locateMakesUptoRow.holds Tryd.pinned (OpenSpec.upto locateMakesSpec)

end Rows
end Go.Proofs.YtgpapebgdnimfaaDoor
