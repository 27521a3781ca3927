/-
  No cell of these rows narrows 'for every input' (looked for: loops, veiled, ifaces, maps, wideKeys, modest, calm, conditions, laid).
  DERIVED. THE GIVEN ROWS OF THIS SEAT. 11 by the template 'for every input the law returns true; each argument reads behind the call as it read before'; 0 by the template 'total and deterministic' (their statements: YtglaeocolbnpdaaGreatTotals.lean).
  GIVEN WITH THE SEED: the statements are not yours to turn. If you find one false, say at which input.
  Laid BY PROGRAM, IN A SANDBOX (cutbox-rows.mjs): the forced cells as the released guide's own fill.sh prints them over the translation 0afe461c9d8f91ac… (all of the seat's roots in one cut). By AI agents, Wed Nov 11 2026. No macro, syntax, notation, axiom, sorry.
-/
import Derived.Test.YtglaeocolbnpdaaGreatChecked
import GoSem.Claim
import GoSem.ClaimJoined
import GoSem.ClaimMapViews
import Derived.JoinedTies
import Derived.KernelRfl
namespace Go.Proofs.YtglaeocolbnpdaaGreat
/- THE CELL 'sum', in the pinned program and in every row, IS THE sha256 OF THE DUMP (.gsa) THAT YtglaeocolbnpdaaGreatProg.lean LOADS. Nothing in Lean hashes anything: it is a label: what it is worth is what the hold of that sum in a sandbox is worth. -/
noncomputable def Tryz.pinned : Pinned := { name := "ytglaeocolbnpdaagreat", sum := "0afe461c9d8f91ac581d8f84ed44c64525156d6602459c2069fd40ec12dd0f21", checked := Tryz.checked }
namespace Rows
def none {H : Type} : Left H := { results := [], args := [] }

/-- 'guidewaylaw02.LevitateSteps': WHATEVER THE INPUT: true; the input reads as it did. -/
def levitateStepsSpec : ChangeSpec := { name := "levitateSteps", fn := fun _ => fun
  | [d1, d2, d3] => { results := [.lit (.bool true)], args := [d1, d2, d3] }
  | _ => none }
def levitateStepsRow : OpenClaim := { program := "ytglaeocolbnpdaagreat", sum := "0afe461c9d8f91ac581d8f84ed44c64525156d6602459c2069fd40ec12dd0f21", func := "guideway/guidewaylaw02.LevitateSteps", spec := "levitateSteps", inPlace := ["math/bits.Add64"], unfollowed := true, recurses := true, apart := false }
def LevitateStepsSaid : Prop := levitateStepsRow.holds Tryz.pinned (OpenSpec.ofChange levitateStepsSpec)

/-- ITS FALSE NEIGHBOUR: 'it returns false'. Refute it at one input. -/
def levitateStepsWrong : ChangeSpec := { name := "levitateSteps", fn := fun _ => fun
  | [d1, d2, d3] => { results := [.lit (.bool false)], args := [d1, d2, d3] }
  | _ => none }
def LevitateStepsWrongFalsely : Prop := levitateStepsRow.holds Tryz.pinned (OpenSpec.ofChange levitateStepsWrong)

/-- 'guidewaylaw02.LevitateChecks': WHATEVER THE INPUT: true; the input reads as it did. -/
def levitateChecksSpec : ChangeSpec := { name := "levitateChecks", fn := fun _ => fun
  | [d1, d2, d3] => { results := [.lit (.bool true)], args := [d1, d2, d3] }
  | _ => none }
def levitateChecksRow : OpenClaim := { program := "ytglaeocolbnpdaagreat", sum := "0afe461c9d8f91ac581d8f84ed44c64525156d6602459c2069fd40ec12dd0f21", func := "guideway/guidewaylaw02.LevitateChecks", spec := "levitateChecks", inPlace := ["math/bits.Add64"], unfollowed := true, recurses := true, apart := false }
def LevitateChecksSaid : Prop := levitateChecksRow.holds Tryz.pinned (OpenSpec.ofChange levitateChecksSpec)

/-- ITS FALSE NEIGHBOUR: 'it returns false'. Refute it at one input. -/
def levitateChecksWrong : ChangeSpec := { name := "levitateChecks", fn := fun _ => fun
  | [d1, d2, d3] => { results := [.lit (.bool false)], args := [d1, d2, d3] }
  | _ => none }
def LevitateChecksWrongFalsely : Prop := levitateChecksRow.holds Tryz.pinned (OpenSpec.ofChange levitateChecksWrong)

/-- 'guidewaylaw02.LevitateLeast': WHATEVER THE INPUT: true; the input reads as it did. -/
def levitateLeastSpec : ChangeSpec := { name := "levitateLeast", fn := fun _ => fun
  | [d1, d2, d3] => { results := [.lit (.bool true)], args := [d1, d2, d3] }
  | _ => none }
def levitateLeastRow : OpenClaim := { program := "ytglaeocolbnpdaagreat", sum := "0afe461c9d8f91ac581d8f84ed44c64525156d6602459c2069fd40ec12dd0f21", func := "guideway/guidewaylaw02.LevitateLeast", spec := "levitateLeast", inPlace := ["math/bits.Add64"], unfollowed := true, recurses := true, apart := false }
def LevitateLeastSaid : Prop := levitateLeastRow.holds Tryz.pinned (OpenSpec.ofChange levitateLeastSpec)

/-- ITS FALSE NEIGHBOUR: 'it returns false'. Refute it at one input. -/
def levitateLeastWrong : ChangeSpec := { name := "levitateLeast", fn := fun _ => fun
  | [d1, d2, d3] => { results := [.lit (.bool false)], args := [d1, d2, d3] }
  | _ => none }
def LevitateLeastWrongFalsely : Prop := levitateLeastRow.holds Tryz.pinned (OpenSpec.ofChange levitateLeastWrong)

/-- 'guidewaylaw02.LevitateForces': WHATEVER THE INPUT: true; the input reads as it did. -/
def levitateForcesSpec : ChangeSpec := { name := "levitateForces", fn := fun _ => fun
  | [d1, d2, d3] => { results := [.lit (.bool true)], args := [d1, d2, d3] }
  | _ => none }
def levitateForcesRow : OpenClaim := { program := "ytglaeocolbnpdaagreat", sum := "0afe461c9d8f91ac581d8f84ed44c64525156d6602459c2069fd40ec12dd0f21", func := "guideway/guidewaylaw02.LevitateForces", spec := "levitateForces", inPlace := ["math/bits.Add64"], unfollowed := true, recurses := true, apart := false }
def LevitateForcesSaid : Prop := levitateForcesRow.holds Tryz.pinned (OpenSpec.ofChange levitateForcesSpec)

/-- ITS FALSE NEIGHBOUR: 'it returns false'. Refute it at one input. -/
def levitateForcesWrong : ChangeSpec := { name := "levitateForces", fn := fun _ => fun
  | [d1, d2, d3] => { results := [.lit (.bool false)], args := [d1, d2, d3] }
  | _ => none }
def LevitateForcesWrongFalsely : Prop := levitateForcesRow.holds Tryz.pinned (OpenSpec.ofChange levitateForcesWrong)

/-- 'guidewaylaw02.LevitateRuns': WHATEVER THE INPUT: true; the input reads as it did. -/
def levitateRunsSpec : ChangeSpec := { name := "levitateRuns", fn := fun _ => fun
  | [d1, d2, d3] => { results := [.lit (.bool true)], args := [d1, d2, d3] }
  | _ => none }
def levitateRunsRow : OpenClaim := { program := "ytglaeocolbnpdaagreat", sum := "0afe461c9d8f91ac581d8f84ed44c64525156d6602459c2069fd40ec12dd0f21", func := "guideway/guidewaylaw02.LevitateRuns", spec := "levitateRuns", inPlace := ["math/bits.Add64"], unfollowed := true, recurses := true, apart := false }
def LevitateRunsSaid : Prop := levitateRunsRow.holds Tryz.pinned (OpenSpec.ofChange levitateRunsSpec)

/-- ITS FALSE NEIGHBOUR: 'it returns false'. Refute it at one input. -/
def levitateRunsWrong : ChangeSpec := { name := "levitateRuns", fn := fun _ => fun
  | [d1, d2, d3] => { results := [.lit (.bool false)], args := [d1, d2, d3] }
  | _ => none }
def LevitateRunsWrongFalsely : Prop := levitateRunsRow.holds Tryz.pinned (OpenSpec.ofChange levitateRunsWrong)

/-- 'guidewaylaw02.LevitateForms': WHATEVER THE INPUT: true; the input reads as it did. -/
def levitateFormsSpec : ChangeSpec := { name := "levitateForms", fn := fun _ => fun
  | [d1, d2, d3] => { results := [.lit (.bool true)], args := [d1, d2, d3] }
  | _ => none }
def levitateFormsRow : OpenClaim := { program := "ytglaeocolbnpdaagreat", sum := "0afe461c9d8f91ac581d8f84ed44c64525156d6602459c2069fd40ec12dd0f21", func := "guideway/guidewaylaw02.LevitateForms", spec := "levitateForms", inPlace := ["math/bits.Add64"], unfollowed := true, recurses := true, apart := false }
def LevitateFormsSaid : Prop := levitateFormsRow.holds Tryz.pinned (OpenSpec.ofChange levitateFormsSpec)

/-- ITS FALSE NEIGHBOUR: 'it returns false'. Refute it at one input. -/
def levitateFormsWrong : ChangeSpec := { name := "levitateForms", fn := fun _ => fun
  | [d1, d2, d3] => { results := [.lit (.bool false)], args := [d1, d2, d3] }
  | _ => none }
def LevitateFormsWrongFalsely : Prop := levitateFormsRow.holds Tryz.pinned (OpenSpec.ofChange levitateFormsWrong)

/-- 'guidewaylaw02.LevitateBoxes': WHATEVER THE INPUT: true; the input reads as it did. -/
def levitateBoxesSpec : ChangeSpec := { name := "levitateBoxes", fn := fun _ => fun
  | [d1, d2] => { results := [.lit (.bool true)], args := [d1, d2] }
  | _ => none }
def levitateBoxesRow : OpenClaim := { program := "ytglaeocolbnpdaagreat", sum := "0afe461c9d8f91ac581d8f84ed44c64525156d6602459c2069fd40ec12dd0f21", func := "guideway/guidewaylaw02.LevitateBoxes", spec := "levitateBoxes", inPlace := ["math/bits.Add64"], unfollowed := true, recurses := true, apart := false }
def LevitateBoxesSaid : Prop := levitateBoxesRow.holds Tryz.pinned (OpenSpec.ofChange levitateBoxesSpec)

/-- ITS FALSE NEIGHBOUR: 'it returns false'. Refute it at one input. -/
def levitateBoxesWrong : ChangeSpec := { name := "levitateBoxes", fn := fun _ => fun
  | [d1, d2] => { results := [.lit (.bool false)], args := [d1, d2] }
  | _ => none }
def LevitateBoxesWrongFalsely : Prop := levitateBoxesRow.holds Tryz.pinned (OpenSpec.ofChange levitateBoxesWrong)

/-- 'guidewaylaw02.LevitateBoxKept': WHATEVER THE INPUT: true; the input reads as it did. -/
def levitateBoxKeptSpec : ChangeSpec := { name := "levitateBoxKept", fn := fun _ => fun
  | [d1, d2, d3] => { results := [.lit (.bool true)], args := [d1, d2, d3] }
  | _ => none }
def levitateBoxKeptRow : OpenClaim := { program := "ytglaeocolbnpdaagreat", sum := "0afe461c9d8f91ac581d8f84ed44c64525156d6602459c2069fd40ec12dd0f21", func := "guideway/guidewaylaw02.LevitateBoxKept", spec := "levitateBoxKept", inPlace := ["math/bits.Add64"], unfollowed := true, recurses := true, apart := false }
def LevitateBoxKeptSaid : Prop := levitateBoxKeptRow.holds Tryz.pinned (OpenSpec.ofChange levitateBoxKeptSpec)

/-- ITS FALSE NEIGHBOUR: 'it returns false'. Refute it at one input. -/
def levitateBoxKeptWrong : ChangeSpec := { name := "levitateBoxKept", fn := fun _ => fun
  | [d1, d2, d3] => { results := [.lit (.bool false)], args := [d1, d2, d3] }
  | _ => none }
def LevitateBoxKeptWrongFalsely : Prop := levitateBoxKeptRow.holds Tryz.pinned (OpenSpec.ofChange levitateBoxKeptWrong)

/-- 'guidewaylaw02.LevitateProofs': WHATEVER THE INPUT: true; the input reads as it did. -/
def levitateProofsSpec : ChangeSpec := { name := "levitateProofs", fn := fun _ => fun
  | [d1, d2] => { results := [.lit (.bool true)], args := [d1, d2] }
  | _ => none }
def levitateProofsRow : OpenClaim := { program := "ytglaeocolbnpdaagreat", sum := "0afe461c9d8f91ac581d8f84ed44c64525156d6602459c2069fd40ec12dd0f21", func := "guideway/guidewaylaw02.LevitateProofs", spec := "levitateProofs", inPlace := ["math/bits.Add64"], unfollowed := true, recurses := true, apart := false }
def LevitateProofsSaid : Prop := levitateProofsRow.holds Tryz.pinned (OpenSpec.ofChange levitateProofsSpec)

/-- ITS FALSE NEIGHBOUR: 'it returns false'. Refute it at one input. -/
def levitateProofsWrong : ChangeSpec := { name := "levitateProofs", fn := fun _ => fun
  | [d1, d2] => { results := [.lit (.bool false)], args := [d1, d2] }
  | _ => none }
def LevitateProofsWrongFalsely : Prop := levitateProofsRow.holds Tryz.pinned (OpenSpec.ofChange levitateProofsWrong)

/-- 'guidewaylaw02.LevitateProved': WHATEVER THE INPUT: true; the input reads as it did. -/
def levitateProvedSpec : ChangeSpec := { name := "levitateProved", fn := fun _ => fun
  | [d1, d2, d3] => { results := [.lit (.bool true)], args := [d1, d2, d3] }
  | _ => none }
def levitateProvedRow : OpenClaim := { program := "ytglaeocolbnpdaagreat", sum := "0afe461c9d8f91ac581d8f84ed44c64525156d6602459c2069fd40ec12dd0f21", func := "guideway/guidewaylaw02.LevitateProved", spec := "levitateProved", inPlace := ["math/bits.Add64"], unfollowed := true, recurses := true, apart := false }
def LevitateProvedSaid : Prop := levitateProvedRow.holds Tryz.pinned (OpenSpec.ofChange levitateProvedSpec)

/-- ITS FALSE NEIGHBOUR: 'it returns false'. Refute it at one input. -/
def levitateProvedWrong : ChangeSpec := { name := "levitateProved", fn := fun _ => fun
  | [d1, d2, d3] => { results := [.lit (.bool false)], args := [d1, d2, d3] }
  | _ => none }
def LevitateProvedWrongFalsely : Prop := levitateProvedRow.holds Tryz.pinned (OpenSpec.ofChange levitateProvedWrong)

/-- 'guidewaylaw02.LevitateFrames': WHATEVER THE INPUT: true; the input reads as it did. -/
def levitateFramesSpec : ChangeSpec := { name := "levitateFrames", fn := fun _ => fun
  | [d1, d2] => { results := [.lit (.bool true)], args := [d1, d2] }
  | _ => none }
def levitateFramesRow : OpenClaim := { program := "ytglaeocolbnpdaagreat", sum := "0afe461c9d8f91ac581d8f84ed44c64525156d6602459c2069fd40ec12dd0f21", func := "guideway/guidewaylaw02.LevitateFrames", spec := "levitateFrames", inPlace := ["math/bits.Add64"], unfollowed := true, recurses := true, apart := false }
def LevitateFramesSaid : Prop := levitateFramesRow.holds Tryz.pinned (OpenSpec.ofChange levitateFramesSpec)

/-- ITS FALSE NEIGHBOUR: 'it returns false'. Refute it at one input. -/
def levitateFramesWrong : ChangeSpec := { name := "levitateFrames", fn := fun _ => fun
  | [d1, d2] => { results := [.lit (.bool false)], args := [d1, d2] }
  | _ => none }
def LevitateFramesWrongFalsely : Prop := levitateFramesRow.holds Tryz.pinned (OpenSpec.ofChange levitateFramesWrong)

/- THE SECOND FORM. 'bulk': how many values and letters a reading holds, each counted each time it is reached (what is shared counts as often as it is met; a slice's spare places count too). A statement '..UptoSaid' is the law's where the arguments, and the package variables that the reading takes, are together of bulk at most 1048576: NARROWER than '..Said'. Prove '..Said' where nothing that the law and all that it calls make is longer than what came in: it says more and counts as full. Else prove '..UptoSaid'. A law counts once. -/
mutual
def uptoBulk {H : Type} : DataW H → Nat
  | .lit (.string bytes) => bytes.length + 1
  | .lit _ => 1
  | .nil => 1
  | .ptr d => uptoBulk d + 1
  | .slice elems spare => uptoBulkAll elems + uptoBulkAll spare + 1
  | .agg parts => uptoBulkAll parts + 1
  | .iface _ d => uptoBulk d + 1
  | .map entries => uptoBulkEntries entries + 1
  | .held _ => 1
def uptoBulkAll {H : Type} : List (DataW H) → Nat
  | [] => 0
  | d :: r => uptoBulk d + uptoBulkAll r
def uptoBulkEntries {H : Type} : List (Lit × DataW H) → Nat
  | [] => 0
  | x :: r => uptoBulkEntry x + uptoBulkEntries r
def uptoBulkEntry {H : Type} : Lit × DataW H → Nat
  | (.string bytes, d) => bytes.length + uptoBulk d + 1
  | (_, d) => uptoBulk d + 1
 end
def uptoSmall : (H : Type) → List (DataW H) → Bool := fun _ ds => decide (uptoBulkAll ds ≤ 1048576)
def OpenSpec.upto (s : _root_.Go.ChangeSpec) : _root_.Go.OpenSpec := { _root_.Go.OpenSpec.ofChange s with cond := some uptoSmall }

/-- 'guidewaylaw02.LevitateSteps', WHERE WHAT IT READS IS OF BULK AT MOST 1048576: true; the input reads as it did. -/
def levitateStepsUptoRow : OpenClaim := { program := "ytglaeocolbnpdaagreat", sum := "0afe461c9d8f91ac581d8f84ed44c64525156d6602459c2069fd40ec12dd0f21", func := "guideway/guidewaylaw02.LevitateSteps", spec := "levitateSteps", inPlace := ["math/bits.Add64"], unfollowed := true, recurses := true, apart := false, narrowed := true }
def LevitateStepsUptoSaid : Prop := levitateStepsUptoRow.holds Tryz.pinned (OpenSpec.upto levitateStepsSpec)

/-- 'guidewaylaw02.LevitateChecks', WHERE WHAT IT READS IS OF BULK AT MOST 1048576: true; the input reads as it did. -/
def levitateChecksUptoRow : OpenClaim := { program := "ytglaeocolbnpdaagreat", sum := "0afe461c9d8f91ac581d8f84ed44c64525156d6602459c2069fd40ec12dd0f21", func := "guideway/guidewaylaw02.LevitateChecks", spec := "levitateChecks", inPlace := ["math/bits.Add64"], unfollowed := true, recurses := true, apart := false, narrowed := true }
def LevitateChecksUptoSaid : Prop := levitateChecksUptoRow.holds Tryz.pinned (OpenSpec.upto levitateChecksSpec)

/-- 'guidewaylaw02.LevitateLeast', WHERE WHAT IT READS IS OF BULK AT MOST 1048576: true; the input reads as it did. -/
def levitateLeastUptoRow : OpenClaim := { program := "ytglaeocolbnpdaagreat", sum := "0afe461c9d8f91ac581d8f84ed44c64525156d6602459c2069fd40ec12dd0f21", func := "guideway/guidewaylaw02.LevitateLeast", spec := "levitateLeast", inPlace := ["math/bits.Add64"], unfollowed := true, recurses := true, apart := false, narrowed := true }
def LevitateLeastUptoSaid : Prop := levitateLeastUptoRow.holds Tryz.pinned (OpenSpec.upto levitateLeastSpec)

/-- 'guidewaylaw02.LevitateForces', WHERE WHAT IT READS IS OF BULK AT MOST 1048576: true; the input reads as it did. -/
def levitateForcesUptoRow : OpenClaim := { program := "ytglaeocolbnpdaagreat", sum := "0afe461c9d8f91ac581d8f84ed44c64525156d6602459c2069fd40ec12dd0f21", func := "guideway/guidewaylaw02.LevitateForces", spec := "levitateForces", inPlace := ["math/bits.Add64"], unfollowed := true, recurses := true, apart := false, narrowed := true }
def LevitateForcesUptoSaid : Prop := levitateForcesUptoRow.holds Tryz.pinned (OpenSpec.upto levitateForcesSpec)

/-- 'guidewaylaw02.LevitateRuns', WHERE WHAT IT READS IS OF BULK AT MOST 1048576: true; the input reads as it did. -/
def levitateRunsUptoRow : OpenClaim := { program := "ytglaeocolbnpdaagreat", sum := "0afe461c9d8f91ac581d8f84ed44c64525156d6602459c2069fd40ec12dd0f21", func := "guideway/guidewaylaw02.LevitateRuns", spec := "levitateRuns", inPlace := ["math/bits.Add64"], unfollowed := true, recurses := true, apart := false, narrowed := true }
def LevitateRunsUptoSaid : Prop := levitateRunsUptoRow.holds Tryz.pinned (OpenSpec.upto levitateRunsSpec)

/-- 'guidewaylaw02.LevitateForms', WHERE WHAT IT READS IS OF BULK AT MOST 1048576: true; the input reads as it did. -/
def levitateFormsUptoRow : OpenClaim := { program := "ytglaeocolbnpdaagreat", sum := "0afe461c9d8f91ac581d8f84ed44c64525156d6602459c2069fd40ec12dd0f21", func := "guideway/guidewaylaw02.LevitateForms", spec := "levitateForms", inPlace := ["math/bits.Add64"], unfollowed := true, recurses := true, apart := false, narrowed := true }
def LevitateFormsUptoSaid : Prop := levitateFormsUptoRow.holds Tryz.pinned (OpenSpec.upto levitateFormsSpec)

/-- 'guidewaylaw02.LevitateBoxes', WHERE WHAT IT READS IS OF BULK AT MOST 1048576: true; the input reads as it did. -/
def levitateBoxesUptoRow : OpenClaim := { program := "ytglaeocolbnpdaagreat", sum := "0afe461c9d8f91ac581d8f84ed44c64525156d6602459c2069fd40ec12dd0f21", func := "guideway/guidewaylaw02.LevitateBoxes", spec := "levitateBoxes", inPlace := ["math/bits.Add64"], unfollowed := true, recurses := true, apart := false, narrowed := true }
def LevitateBoxesUptoSaid : Prop := levitateBoxesUptoRow.holds Tryz.pinned (OpenSpec.upto levitateBoxesSpec)

/-- 'guidewaylaw02.LevitateBoxKept', WHERE WHAT IT READS IS OF BULK AT MOST 1048576: true; the input reads as it did. -/
def levitateBoxKeptUptoRow : OpenClaim := { program := "ytglaeocolbnpdaagreat", sum := "0afe461c9d8f91ac581d8f84ed44c64525156d6602459c2069fd40ec12dd0f21", func := "guideway/guidewaylaw02.LevitateBoxKept", spec := "levitateBoxKept", inPlace := ["math/bits.Add64"], unfollowed := true, recurses := true, apart := false, narrowed := true }
def LevitateBoxKeptUptoSaid : Prop := levitateBoxKeptUptoRow.holds Tryz.pinned (OpenSpec.upto levitateBoxKeptSpec)

/-- 'guidewaylaw02.LevitateProofs', WHERE WHAT IT READS IS OF BULK AT MOST 1048576: true; the input reads as it did. -/
def levitateProofsUptoRow : OpenClaim := { program := "ytglaeocolbnpdaagreat", sum := "0afe461c9d8f91ac581d8f84ed44c64525156d6602459c2069fd40ec12dd0f21", func := "guideway/guidewaylaw02.LevitateProofs", spec := "levitateProofs", inPlace := ["math/bits.Add64"], unfollowed := true, recurses := true, apart := false, narrowed := true }
def LevitateProofsUptoSaid : Prop := levitateProofsUptoRow.holds Tryz.pinned (OpenSpec.upto levitateProofsSpec)

/-- 'guidewaylaw02.LevitateProved', WHERE WHAT IT READS IS OF BULK AT MOST 1048576: true; the input reads as it did. -/
def levitateProvedUptoRow : OpenClaim := { program := "ytglaeocolbnpdaagreat", sum := "0afe461c9d8f91ac581d8f84ed44c64525156d6602459c2069fd40ec12dd0f21", func := "guideway/guidewaylaw02.LevitateProved", spec := "levitateProved", inPlace := ["math/bits.Add64"], unfollowed := true, recurses := true, apart := false, narrowed := true }
def LevitateProvedUptoSaid : Prop := levitateProvedUptoRow.holds Tryz.pinned (OpenSpec.upto levitateProvedSpec)

/-- 'guidewaylaw02.LevitateFrames', WHERE WHAT IT READS IS OF BULK AT MOST 1048576: true; the input reads as it did. -/
def levitateFramesUptoRow : OpenClaim := { program := "ytglaeocolbnpdaagreat", sum := "0afe461c9d8f91ac581d8f84ed44c64525156d6602459c2069fd40ec12dd0f21", func := "guideway/guidewaylaw02.LevitateFrames", spec := "levitateFrames", inPlace := ["math/bits.Add64"], unfollowed := true, recurses := true, apart := false, narrowed := true }
def LevitateFramesUptoSaid : Prop := levitateFramesUptoRow.holds Tryz.pinned (OpenSpec.upto levitateFramesSpec)

end Rows
end Go.Proofs.YtglaeocolbnpdaaGreat
