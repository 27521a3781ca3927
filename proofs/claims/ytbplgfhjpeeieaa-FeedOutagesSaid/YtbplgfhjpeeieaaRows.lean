/-
  No cell of these rows narrows 'for every input' (looked for: loops, veiled, ifaces, maps, wideKeys, modest, calm, conditions, laid).
  DERIVED. THE GIVEN ROWS OF THIS SEAT. 16 by the template 'for every input the law returns true; each argument reads behind the call as it read before'; 0 by the template 'total and deterministic' (their statements: YtbplgfhjpeeieaaTotals.lean).
  GIVEN WITH THE SEED: the statements are not yours to turn. If you find one false, say at which input.
  Laid BY PROGRAM, IN A SANDBOX (cutbox-rows.mjs): the forced cells as the released guide's own fill.sh prints them over the translation 776b6a6f92604d12… (all of the seat's roots in one cut). By AI agents, Wed Nov 11 2026. No macro, syntax, notation, axiom, sorry.
-/
import Derived.Test.YtbplgfhjpeeieaaChecked
import GoSem.Claim
import GoSem.ClaimJoined
import GoSem.ClaimMapViews
import Derived.JoinedTies
import Derived.KernelRfl
namespace Go.Proofs.Ytbplgfhjpeeieaa
/- THE CELL 'sum', in the pinned program and in every row, IS THE sha256 OF THE DUMP (.gsa) THAT YtbplgfhjpeeieaaProg.lean LOADS. Nothing in Lean hashes anything: it is a label: what it is worth is what the hold of that sum in a sandbox is worth. -/
noncomputable def Try.pinned : Pinned := { name := "ytbplgfhjpeeieaa", sum := "776b6a6f92604d126b2368cc914647d8d11f0c420a9e3e044ea25c16e8bbe882", checked := Try.checked }
namespace Rows
def none {H : Type} : Left H := { results := [], args := [] }

/-- 'guidewaylaw07.FeedPlans': WHATEVER THE INPUT: true; the input reads as it did. -/
def feedPlansSpec : ChangeSpec := { name := "feedPlans", fn := fun _ => fun
  | [d] => { results := [.lit (.bool true)], args := [d] }
  | _ => none }
def feedPlansRow : OpenClaim := { program := "ytbplgfhjpeeieaa", sum := "776b6a6f92604d126b2368cc914647d8d11f0c420a9e3e044ea25c16e8bbe882", func := "guideway/guidewaylaw07.FeedPlans", spec := "feedPlans", unfollowed := true, recurses := true, leaving := true, apart := false }
def FeedPlansSaid : Prop := feedPlansRow.holds Try.pinned (OpenSpec.ofChange feedPlansSpec)

/-- ITS FALSE NEIGHBOUR: 'it returns false'. Refute it at one input. -/
def feedPlansWrong : ChangeSpec := { name := "feedPlans", fn := fun _ => fun
  | [d] => { results := [.lit (.bool false)], args := [d] }
  | _ => none }
def FeedPlansWrongFalsely : Prop := feedPlansRow.holds Try.pinned (OpenSpec.ofChange feedPlansWrong)

/-- 'guidewaylaw07.FeedNets': WHATEVER THE INPUT: true; the input reads as it did. -/
def feedNetsSpec : ChangeSpec := { name := "feedNets", fn := fun _ => fun
  | [d1, d2] => { results := [.lit (.bool true)], args := [d1, d2] }
  | _ => none }
def feedNetsRow : OpenClaim := { program := "ytbplgfhjpeeieaa", sum := "776b6a6f92604d126b2368cc914647d8d11f0c420a9e3e044ea25c16e8bbe882", func := "guideway/guidewaylaw07.FeedNets", spec := "feedNets", unfollowed := true, recurses := true, leaving := true, apart := false }
def FeedNetsSaid : Prop := feedNetsRow.holds Try.pinned (OpenSpec.ofChange feedNetsSpec)

/-- ITS FALSE NEIGHBOUR: 'it returns false'. Refute it at one input. -/
def feedNetsWrong : ChangeSpec := { name := "feedNets", fn := fun _ => fun
  | [d1, d2] => { results := [.lit (.bool false)], args := [d1, d2] }
  | _ => none }
def FeedNetsWrongFalsely : Prop := feedNetsRow.holds Try.pinned (OpenSpec.ofChange feedNetsWrong)

/-- 'guidewaylaw07.FeedBlames': WHATEVER THE INPUT: true; the input reads as it did. -/
def feedBlamesSpec : ChangeSpec := { name := "feedBlames", fn := fun _ => fun
  | [d1, d2] => { results := [.lit (.bool true)], args := [d1, d2] }
  | _ => none }
def feedBlamesRow : OpenClaim := { program := "ytbplgfhjpeeieaa", sum := "776b6a6f92604d126b2368cc914647d8d11f0c420a9e3e044ea25c16e8bbe882", func := "guideway/guidewaylaw07.FeedBlames", spec := "feedBlames", unfollowed := true, recurses := true, leaving := true, apart := false }
def FeedBlamesSaid : Prop := feedBlamesRow.holds Try.pinned (OpenSpec.ofChange feedBlamesSpec)

/-- ITS FALSE NEIGHBOUR: 'it returns false'. Refute it at one input. -/
def feedBlamesWrong : ChangeSpec := { name := "feedBlames", fn := fun _ => fun
  | [d1, d2] => { results := [.lit (.bool false)], args := [d1, d2] }
  | _ => none }
def FeedBlamesWrongFalsely : Prop := feedBlamesRow.holds Try.pinned (OpenSpec.ofChange feedBlamesWrong)

/-- 'guidewaylaw07.FeedLoads': WHATEVER THE INPUT: true; the input reads as it did. -/
def feedLoadsSpec : ChangeSpec := { name := "feedLoads", fn := fun _ => fun
  | [d1, d2, d3] => { results := [.lit (.bool true)], args := [d1, d2, d3] }
  | _ => none }
def feedLoadsRow : OpenClaim := { program := "ytbplgfhjpeeieaa", sum := "776b6a6f92604d126b2368cc914647d8d11f0c420a9e3e044ea25c16e8bbe882", func := "guideway/guidewaylaw07.FeedLoads", spec := "feedLoads", unfollowed := true, recurses := true, leaving := true, apart := false }
def FeedLoadsSaid : Prop := feedLoadsRow.holds Try.pinned (OpenSpec.ofChange feedLoadsSpec)

/-- ITS FALSE NEIGHBOUR: 'it returns false'. Refute it at one input. -/
def feedLoadsWrong : ChangeSpec := { name := "feedLoads", fn := fun _ => fun
  | [d1, d2, d3] => { results := [.lit (.bool false)], args := [d1, d2, d3] }
  | _ => none }
def FeedLoadsWrongFalsely : Prop := feedLoadsRow.holds Try.pinned (OpenSpec.ofChange feedLoadsWrong)

/-- 'guidewaylaw07.FeedSums': WHATEVER THE INPUT: true; the input reads as it did. -/
def feedSumsSpec : ChangeSpec := { name := "feedSums", fn := fun _ => fun
  | [d1, d2, d3] => { results := [.lit (.bool true)], args := [d1, d2, d3] }
  | _ => none }
def feedSumsRow : OpenClaim := { program := "ytbplgfhjpeeieaa", sum := "776b6a6f92604d126b2368cc914647d8d11f0c420a9e3e044ea25c16e8bbe882", func := "guideway/guidewaylaw07.FeedSums", spec := "feedSums", unfollowed := true, recurses := true, leaving := true, apart := false }
def FeedSumsSaid : Prop := feedSumsRow.holds Try.pinned (OpenSpec.ofChange feedSumsSpec)

/-- ITS FALSE NEIGHBOUR: 'it returns false'. Refute it at one input. -/
def feedSumsWrong : ChangeSpec := { name := "feedSums", fn := fun _ => fun
  | [d1, d2, d3] => { results := [.lit (.bool false)], args := [d1, d2, d3] }
  | _ => none }
def FeedSumsWrongFalsely : Prop := feedSumsRow.holds Try.pinned (OpenSpec.ofChange feedSumsWrong)

/-- 'guidewaylaw07.FeedBooks': WHATEVER THE INPUT: true; the input reads as it did. -/
def feedBooksSpec : ChangeSpec := { name := "feedBooks", fn := fun _ => fun
  | [d1, d2, d3] => { results := [.lit (.bool true)], args := [d1, d2, d3] }
  | _ => none }
def feedBooksRow : OpenClaim := { program := "ytbplgfhjpeeieaa", sum := "776b6a6f92604d126b2368cc914647d8d11f0c420a9e3e044ea25c16e8bbe882", func := "guideway/guidewaylaw07.FeedBooks", spec := "feedBooks", unfollowed := true, recurses := true, leaving := true, apart := false }
def FeedBooksSaid : Prop := feedBooksRow.holds Try.pinned (OpenSpec.ofChange feedBooksSpec)

/-- ITS FALSE NEIGHBOUR: 'it returns false'. Refute it at one input. -/
def feedBooksWrong : ChangeSpec := { name := "feedBooks", fn := fun _ => fun
  | [d1, d2, d3] => { results := [.lit (.bool false)], args := [d1, d2, d3] }
  | _ => none }
def FeedBooksWrongFalsely : Prop := feedBooksRow.holds Try.pinned (OpenSpec.ofChange feedBooksWrong)

/-- 'guidewaylaw07.FeedAddsUp': WHATEVER THE INPUT: true; the input reads as it did. -/
def feedAddsUpSpec : ChangeSpec := { name := "feedAddsUp", fn := fun _ => fun
  | [d1, d2, d3] => { results := [.lit (.bool true)], args := [d1, d2, d3] }
  | _ => none }
def feedAddsUpRow : OpenClaim := { program := "ytbplgfhjpeeieaa", sum := "776b6a6f92604d126b2368cc914647d8d11f0c420a9e3e044ea25c16e8bbe882", func := "guideway/guidewaylaw07.FeedAddsUp", spec := "feedAddsUp", unfollowed := true, recurses := true, leaving := true, apart := false }
def FeedAddsUpSaid : Prop := feedAddsUpRow.holds Try.pinned (OpenSpec.ofChange feedAddsUpSpec)

/-- ITS FALSE NEIGHBOUR: 'it returns false'. Refute it at one input. -/
def feedAddsUpWrong : ChangeSpec := { name := "feedAddsUp", fn := fun _ => fun
  | [d1, d2, d3] => { results := [.lit (.bool false)], args := [d1, d2, d3] }
  | _ => none }
def FeedAddsUpWrongFalsely : Prop := feedAddsUpRow.holds Try.pinned (OpenSpec.ofChange feedAddsUpWrong)

/-- 'guidewaylaw07.FeedLadders': WHATEVER THE INPUT: true; the input reads as it did. -/
def feedLaddersSpec : ChangeSpec := { name := "feedLadders", fn := fun _ => fun
  | [d1, d2] => { results := [.lit (.bool true)], args := [d1, d2] }
  | _ => none }
def feedLaddersRow : OpenClaim := { program := "ytbplgfhjpeeieaa", sum := "776b6a6f92604d126b2368cc914647d8d11f0c420a9e3e044ea25c16e8bbe882", func := "guideway/guidewaylaw07.FeedLadders", spec := "feedLadders", unfollowed := true, recurses := true, leaving := true, apart := false }
def FeedLaddersSaid : Prop := feedLaddersRow.holds Try.pinned (OpenSpec.ofChange feedLaddersSpec)

/-- ITS FALSE NEIGHBOUR: 'it returns false'. Refute it at one input. -/
def feedLaddersWrong : ChangeSpec := { name := "feedLadders", fn := fun _ => fun
  | [d1, d2] => { results := [.lit (.bool false)], args := [d1, d2] }
  | _ => none }
def FeedLaddersWrongFalsely : Prop := feedLaddersRow.holds Try.pinned (OpenSpec.ofChange feedLaddersWrong)

/-- 'guidewaylaw07.FeedBothEnds': WHATEVER THE INPUT: true; the input reads as it did. -/
def feedBothEndsSpec : ChangeSpec := { name := "feedBothEnds", fn := fun _ => fun
  | [d1, d2] => { results := [.lit (.bool true)], args := [d1, d2] }
  | _ => none }
def feedBothEndsRow : OpenClaim := { program := "ytbplgfhjpeeieaa", sum := "776b6a6f92604d126b2368cc914647d8d11f0c420a9e3e044ea25c16e8bbe882", func := "guideway/guidewaylaw07.FeedBothEnds", spec := "feedBothEnds", unfollowed := true, recurses := true, leaving := true, apart := false }
def FeedBothEndsSaid : Prop := feedBothEndsRow.holds Try.pinned (OpenSpec.ofChange feedBothEndsSpec)

/-- ITS FALSE NEIGHBOUR: 'it returns false'. Refute it at one input. -/
def feedBothEndsWrong : ChangeSpec := { name := "feedBothEnds", fn := fun _ => fun
  | [d1, d2] => { results := [.lit (.bool false)], args := [d1, d2] }
  | _ => none }
def FeedBothEndsWrongFalsely : Prop := feedBothEndsRow.holds Try.pinned (OpenSpec.ofChange feedBothEndsWrong)

/-- 'guidewaylaw07.FeedPeaks': WHATEVER THE INPUT: true; the input reads as it did. -/
def feedPeaksSpec : ChangeSpec := { name := "feedPeaks", fn := fun _ => fun
  | [d1, d2, d3] => { results := [.lit (.bool true)], args := [d1, d2, d3] }
  | _ => none }
def feedPeaksRow : OpenClaim := { program := "ytbplgfhjpeeieaa", sum := "776b6a6f92604d126b2368cc914647d8d11f0c420a9e3e044ea25c16e8bbe882", func := "guideway/guidewaylaw07.FeedPeaks", spec := "feedPeaks", unfollowed := true, recurses := true, leaving := true, apart := false }
def FeedPeaksSaid : Prop := feedPeaksRow.holds Try.pinned (OpenSpec.ofChange feedPeaksSpec)

/-- ITS FALSE NEIGHBOUR: 'it returns false'. Refute it at one input. -/
def feedPeaksWrong : ChangeSpec := { name := "feedPeaks", fn := fun _ => fun
  | [d1, d2, d3] => { results := [.lit (.bool false)], args := [d1, d2, d3] }
  | _ => none }
def FeedPeaksWrongFalsely : Prop := feedPeaksRow.holds Try.pinned (OpenSpec.ofChange feedPeaksWrong)

/-- 'guidewaylaw07.FeedAccepts': WHATEVER THE INPUT: true; the input reads as it did. -/
def feedAcceptsSpec : ChangeSpec := { name := "feedAccepts", fn := fun _ => fun
  | [d1, d2, d3] => { results := [.lit (.bool true)], args := [d1, d2, d3] }
  | _ => none }
def feedAcceptsRow : OpenClaim := { program := "ytbplgfhjpeeieaa", sum := "776b6a6f92604d126b2368cc914647d8d11f0c420a9e3e044ea25c16e8bbe882", func := "guideway/guidewaylaw07.FeedAccepts", spec := "feedAccepts", unfollowed := true, recurses := true, leaving := true, apart := false }
def FeedAcceptsSaid : Prop := feedAcceptsRow.holds Try.pinned (OpenSpec.ofChange feedAcceptsSpec)

/-- ITS FALSE NEIGHBOUR: 'it returns false'. Refute it at one input. -/
def feedAcceptsWrong : ChangeSpec := { name := "feedAccepts", fn := fun _ => fun
  | [d1, d2, d3] => { results := [.lit (.bool false)], args := [d1, d2, d3] }
  | _ => none }
def FeedAcceptsWrongFalsely : Prop := feedAcceptsRow.holds Try.pinned (OpenSpec.ofChange feedAcceptsWrong)

/-- 'guidewaylaw07.FeedNoLess': WHATEVER THE INPUT: true; the input reads as it did. -/
def feedNoLessSpec : ChangeSpec := { name := "feedNoLess", fn := fun _ => fun
  | [d1, d2, d3] => { results := [.lit (.bool true)], args := [d1, d2, d3] }
  | _ => none }
def feedNoLessRow : OpenClaim := { program := "ytbplgfhjpeeieaa", sum := "776b6a6f92604d126b2368cc914647d8d11f0c420a9e3e044ea25c16e8bbe882", func := "guideway/guidewaylaw07.FeedNoLess", spec := "feedNoLess", unfollowed := true, recurses := true, leaving := true, apart := false }
def FeedNoLessSaid : Prop := feedNoLessRow.holds Try.pinned (OpenSpec.ofChange feedNoLessSpec)

/-- ITS FALSE NEIGHBOUR: 'it returns false'. Refute it at one input. -/
def feedNoLessWrong : ChangeSpec := { name := "feedNoLess", fn := fun _ => fun
  | [d1, d2, d3] => { results := [.lit (.bool false)], args := [d1, d2, d3] }
  | _ => none }
def FeedNoLessWrongFalsely : Prop := feedNoLessRow.holds Try.pinned (OpenSpec.ofChange feedNoLessWrong)

/-- 'guidewaylaw07.FeedWindows': WHATEVER THE INPUT: true; the input reads as it did. -/
def feedWindowsSpec : ChangeSpec := { name := "feedWindows", fn := fun _ => fun
  | [d1, d2] => { results := [.lit (.bool true)], args := [d1, d2] }
  | _ => none }
def feedWindowsRow : OpenClaim := { program := "ytbplgfhjpeeieaa", sum := "776b6a6f92604d126b2368cc914647d8d11f0c420a9e3e044ea25c16e8bbe882", func := "guideway/guidewaylaw07.FeedWindows", spec := "feedWindows", unfollowed := true, recurses := true, leaving := true, apart := false }
def FeedWindowsSaid : Prop := feedWindowsRow.holds Try.pinned (OpenSpec.ofChange feedWindowsSpec)

/-- ITS FALSE NEIGHBOUR: 'it returns false'. Refute it at one input. -/
def feedWindowsWrong : ChangeSpec := { name := "feedWindows", fn := fun _ => fun
  | [d1, d2] => { results := [.lit (.bool false)], args := [d1, d2] }
  | _ => none }
def FeedWindowsWrongFalsely : Prop := feedWindowsRow.holds Try.pinned (OpenSpec.ofChange feedWindowsWrong)

/-- 'guidewaylaw07.FeedOutages': WHATEVER THE INPUT: true; the input reads as it did. -/
def feedOutagesSpec : ChangeSpec := { name := "feedOutages", fn := fun _ => fun
  | [d1, d2, d3] => { results := [.lit (.bool true)], args := [d1, d2, d3] }
  | _ => none }
def feedOutagesRow : OpenClaim := { program := "ytbplgfhjpeeieaa", sum := "776b6a6f92604d126b2368cc914647d8d11f0c420a9e3e044ea25c16e8bbe882", func := "guideway/guidewaylaw07.FeedOutages", spec := "feedOutages", unfollowed := true, recurses := true, leaving := true, apart := false }
def FeedOutagesSaid : Prop := feedOutagesRow.holds Try.pinned (OpenSpec.ofChange feedOutagesSpec)

/-- ITS FALSE NEIGHBOUR: 'it returns false'. Refute it at one input. -/
def feedOutagesWrong : ChangeSpec := { name := "feedOutages", fn := fun _ => fun
  | [d1, d2, d3] => { results := [.lit (.bool false)], args := [d1, d2, d3] }
  | _ => none }
def FeedOutagesWrongFalsely : Prop := feedOutagesRow.holds Try.pinned (OpenSpec.ofChange feedOutagesWrong)

/-- 'guidewaytop.TopFeedBooksAddUp': WHATEVER THE INPUT: true; the input reads as it did. -/
def topFeedBooksAddUpSpec : ChangeSpec := { name := "topFeedBooksAddUp", fn := fun _ => fun
  | [d1, d2] => { results := [.lit (.bool true)], args := [d1, d2] }
  | _ => none }
def topFeedBooksAddUpRow : OpenClaim := { program := "ytbplgfhjpeeieaa", sum := "776b6a6f92604d126b2368cc914647d8d11f0c420a9e3e044ea25c16e8bbe882", func := "guideway/guidewaytop.TopFeedBooksAddUp", spec := "topFeedBooksAddUp", unfollowed := true, recurses := true, leaving := true, apart := false }
def TopFeedBooksAddUpSaid : Prop := topFeedBooksAddUpRow.holds Try.pinned (OpenSpec.ofChange topFeedBooksAddUpSpec)

/-- ITS FALSE NEIGHBOUR: 'it returns false'. Refute it at one input. -/
def topFeedBooksAddUpWrong : ChangeSpec := { name := "topFeedBooksAddUp", fn := fun _ => fun
  | [d1, d2] => { results := [.lit (.bool false)], args := [d1, d2] }
  | _ => none }
def TopFeedBooksAddUpWrongFalsely : Prop := topFeedBooksAddUpRow.holds Try.pinned (OpenSpec.ofChange topFeedBooksAddUpWrong)

/-- 'guidewaytop.TopFeedBelowLimit': WHATEVER THE INPUT: true; the input reads as it did. -/
def topFeedBelowLimitSpec : ChangeSpec := { name := "topFeedBelowLimit", fn := fun _ => fun
  | [d1, d2, d3] => { results := [.lit (.bool true)], args := [d1, d2, d3] }
  | _ => none }
def topFeedBelowLimitRow : OpenClaim := { program := "ytbplgfhjpeeieaa", sum := "776b6a6f92604d126b2368cc914647d8d11f0c420a9e3e044ea25c16e8bbe882", func := "guideway/guidewaytop.TopFeedBelowLimit", spec := "topFeedBelowLimit", unfollowed := true, recurses := true, leaving := true, apart := false }
def TopFeedBelowLimitSaid : Prop := topFeedBelowLimitRow.holds Try.pinned (OpenSpec.ofChange topFeedBelowLimitSpec)

/-- ITS FALSE NEIGHBOUR: 'it returns false'. Refute it at one input. -/
def topFeedBelowLimitWrong : ChangeSpec := { name := "topFeedBelowLimit", fn := fun _ => fun
  | [d1, d2, d3] => { results := [.lit (.bool false)], args := [d1, d2, d3] }
  | _ => none }
def TopFeedBelowLimitWrongFalsely : Prop := topFeedBelowLimitRow.holds Try.pinned (OpenSpec.ofChange topFeedBelowLimitWrong)

/- THE SECOND FORM. 'bulk': how many values and letters a reading holds, each counted each time it is reached (what is shared counts as often as it is met; a slice's spare places count too). A statement '..UptoSaid' is the law's where the arguments, and the package variables that the reading takes, are together of bulk at most 1048576: NARROWER than '..Said'. Prove '..Said' where nothing that the law and all that it calls make is longer than what came in: it says more and counts as full. Else prove '..UptoSaid'. A law counts once. -/
mutual
def uptoBulk {H : Type} : DataW H → Nat
  | .lit (.string bytes) => bytes.length + 1
  | .lit _ => 1
  | .nil => 1
  | .ptr d => uptoBulk d + 1
  | .slice elems spare => uptoBulkAll elems + uptoBulkAll spare + 1
  | .agg parts => uptoBulkAll parts + 1
  | .iface _ d => uptoBulk d + 1
  | .map entries => uptoBulkEntries entries + 1
  | .held _ => 1
def uptoBulkAll {H : Type} : List (DataW H) → Nat
  | [] => 0
  | d :: r => uptoBulk d + uptoBulkAll r
def uptoBulkEntries {H : Type} : List (Lit × DataW H) → Nat
  | [] => 0
  | x :: r => uptoBulkEntry x + uptoBulkEntries r
def uptoBulkEntry {H : Type} : Lit × DataW H → Nat
  | (.string bytes, d) => bytes.length + uptoBulk d + 1
  | (_, d) => uptoBulk d + 1
 end
def uptoSmall : (H : Type) → List (DataW H) → Bool := fun _ ds => decide (uptoBulkAll ds ≤ 1048576)
def OpenSpec.upto (s : _root_.Go.ChangeSpec) : _root_.Go.OpenSpec := { _root_.Go.OpenSpec.ofChange s with cond := some uptoSmall }

/-- 'guidewaylaw07.FeedPlans', WHERE WHAT IT READS IS OF BULK AT MOST 1048576: true; the input reads as it did. -/
def feedPlansUptoRow : OpenClaim := { program := "ytbplgfhjpeeieaa", sum := "776b6a6f92604d126b2368cc914647d8d11f0c420a9e3e044ea25c16e8bbe882", func := "guideway/guidewaylaw07.FeedPlans", spec := "feedPlans", unfollowed := true, recurses := true, leaving := true, apart := false, narrowed := true }
def FeedPlansUptoSaid : Prop := feedPlansUptoRow.holds Try.pinned (OpenSpec.upto feedPlansSpec)

/-- 'guidewaylaw07.FeedNets', WHERE WHAT IT READS IS OF BULK AT MOST 1048576: true; the input reads as it did. -/
def feedNetsUptoRow : OpenClaim := { program := "ytbplgfhjpeeieaa", sum := "776b6a6f92604d126b2368cc914647d8d11f0c420a9e3e044ea25c16e8bbe882", func := "guideway/guidewaylaw07.FeedNets", spec := "feedNets", unfollowed := true, recurses := true, leaving := true, apart := false, narrowed := true }
def FeedNetsUptoSaid : Prop := feedNetsUptoRow.holds Try.pinned (OpenSpec.upto feedNetsSpec)

/-- 'guidewaylaw07.FeedBlames', WHERE WHAT IT READS IS OF BULK AT MOST 1048576: true; the input reads as it did. -/
def feedBlamesUptoRow : OpenClaim := { program := "ytbplgfhjpeeieaa", sum := "776b6a6f92604d126b2368cc914647d8d11f0c420a9e3e044ea25c16e8bbe882", func := "guideway/guidewaylaw07.FeedBlames", spec := "feedBlames", unfollowed := true, recurses := true, leaving := true, apart := false, narrowed := true }
def FeedBlamesUptoSaid : Prop := feedBlamesUptoRow.holds Try.pinned (OpenSpec.upto feedBlamesSpec)

/-- 'guidewaylaw07.FeedLoads', WHERE WHAT IT READS IS OF BULK AT MOST 1048576: true; the input reads as it did. -/
def feedLoadsUptoRow : OpenClaim := { program := "ytbplgfhjpeeieaa", sum := "776b6a6f92604d126b2368cc914647d8d11f0c420a9e3e044ea25c16e8bbe882", func := "guideway/guidewaylaw07.FeedLoads", spec := "feedLoads", unfollowed := true, recurses := true, leaving := true, apart := false, narrowed := true }
def FeedLoadsUptoSaid : Prop := feedLoadsUptoRow.holds Try.pinned (OpenSpec.upto feedLoadsSpec)

/-- 'guidewaylaw07.FeedSums', WHERE WHAT IT READS IS OF BULK AT MOST 1048576: true; the input reads as it did. -/
def feedSumsUptoRow : OpenClaim := { program := "ytbplgfhjpeeieaa", sum := "776b6a6f92604d126b2368cc914647d8d11f0c420a9e3e044ea25c16e8bbe882", func := "guideway/guidewaylaw07.FeedSums", spec := "feedSums", unfollowed := true, recurses := true, leaving := true, apart := false, narrowed := true }
def FeedSumsUptoSaid : Prop := feedSumsUptoRow.holds Try.pinned (OpenSpec.upto feedSumsSpec)

/-- 'guidewaylaw07.FeedBooks', WHERE WHAT IT READS IS OF BULK AT MOST 1048576: true; the input reads as it did. -/
def feedBooksUptoRow : OpenClaim := { program := "ytbplgfhjpeeieaa", sum := "776b6a6f92604d126b2368cc914647d8d11f0c420a9e3e044ea25c16e8bbe882", func := "guideway/guidewaylaw07.FeedBooks", spec := "feedBooks", unfollowed := true, recurses := true, leaving := true, apart := false, narrowed := true }
def FeedBooksUptoSaid : Prop := feedBooksUptoRow.holds Try.pinned (OpenSpec.upto feedBooksSpec)

/-- 'guidewaylaw07.FeedAddsUp', WHERE WHAT IT READS IS OF BULK AT MOST 1048576: true; the input reads as it did. -/
def feedAddsUpUptoRow : OpenClaim := { program := "ytbplgfhjpeeieaa", sum := "776b6a6f92604d126b2368cc914647d8d11f0c420a9e3e044ea25c16e8bbe882", func := "guideway/guidewaylaw07.FeedAddsUp", spec := "feedAddsUp", unfollowed := true, recurses := true, leaving := true, apart := false, narrowed := true }
def FeedAddsUpUptoSaid : Prop := feedAddsUpUptoRow.holds Try.pinned (OpenSpec.upto feedAddsUpSpec)

/-- 'guidewaylaw07.FeedLadders', WHERE WHAT IT READS IS OF BULK AT MOST 1048576: true; the input reads as it did. -/
def feedLaddersUptoRow : OpenClaim := { program := "ytbplgfhjpeeieaa", sum := "776b6a6f92604d126b2368cc914647d8d11f0c420a9e3e044ea25c16e8bbe882", func := "guideway/guidewaylaw07.FeedLadders", spec := "feedLadders", unfollowed := true, recurses := true, leaving := true, apart := false, narrowed := true }
def FeedLaddersUptoSaid : Prop := feedLaddersUptoRow.holds Try.pinned (OpenSpec.upto feedLaddersSpec)

/-- 'guidewaylaw07.FeedBothEnds', WHERE WHAT IT READS IS OF BULK AT MOST 1048576: true; the input reads as it did. -/
def feedBothEndsUptoRow : OpenClaim := { program := "ytbplgfhjpeeieaa", sum := "776b6a6f92604d126b2368cc914647d8d11f0c420a9e3e044ea25c16e8bbe882", func := "guideway/guidewaylaw07.FeedBothEnds", spec := "feedBothEnds", unfollowed := true, recurses := true, leaving := true, apart := false, narrowed := true }
def FeedBothEndsUptoSaid : Prop := feedBothEndsUptoRow.holds Try.pinned (OpenSpec.upto feedBothEndsSpec)

/-- 'guidewaylaw07.FeedPeaks', WHERE WHAT IT READS IS OF BULK AT MOST 1048576: true; the input reads as it did. -/
def feedPeaksUptoRow : OpenClaim := { program := "ytbplgfhjpeeieaa", sum := "776b6a6f92604d126b2368cc914647d8d11f0c420a9e3e044ea25c16e8bbe882", func := "guideway/guidewaylaw07.FeedPeaks", spec := "feedPeaks", unfollowed := true, recurses := true, leaving := true, apart := false, narrowed := true }
def FeedPeaksUptoSaid : Prop := feedPeaksUptoRow.holds Try.pinned (OpenSpec.upto feedPeaksSpec)

/-- 'guidewaylaw07.FeedAccepts', WHERE WHAT IT READS IS OF BULK AT MOST 1048576: true; the input reads as it did. -/
def feedAcceptsUptoRow : OpenClaim := { program := "ytbplgfhjpeeieaa", sum := "776b6a6f92604d126b2368cc914647d8d11f0c420a9e3e044ea25c16e8bbe882", func := "guideway/guidewaylaw07.FeedAccepts", spec := "feedAccepts", unfollowed := true, recurses := true, leaving := true, apart := false, narrowed := true }
def FeedAcceptsUptoSaid : Prop := feedAcceptsUptoRow.holds Try.pinned (OpenSpec.upto feedAcceptsSpec)

/-- 'guidewaylaw07.FeedNoLess', WHERE WHAT IT READS IS OF BULK AT MOST 1048576: true; the input reads as it did. -/
def feedNoLessUptoRow : OpenClaim := { program := "ytbplgfhjpeeieaa", sum := "776b6a6f92604d126b2368cc914647d8d11f0c420a9e3e044ea25c16e8bbe882", func := "guideway/guidewaylaw07.FeedNoLess", spec := "feedNoLess", unfollowed := true, recurses := true, leaving := true, apart := false, narrowed := true }
def FeedNoLessUptoSaid : Prop := feedNoLessUptoRow.holds Try.pinned (OpenSpec.upto feedNoLessSpec)

/-- 'guidewaylaw07.FeedWindows', WHERE WHAT IT READS IS OF BULK AT MOST 1048576: true; the input reads as it did. -/
def feedWindowsUptoRow : OpenClaim := { program := "ytbplgfhjpeeieaa", sum := "776b6a6f92604d126b2368cc914647d8d11f0c420a9e3e044ea25c16e8bbe882", func := "guideway/guidewaylaw07.FeedWindows", spec := "feedWindows", unfollowed := true, recurses := true, leaving := true, apart := false, narrowed := true }
def FeedWindowsUptoSaid : Prop := feedWindowsUptoRow.holds Try.pinned (OpenSpec.upto feedWindowsSpec)

/-- 'guidewaylaw07.FeedOutages', WHERE WHAT IT READS IS OF BULK AT MOST 1048576: true; the input reads as it did. -/
def feedOutagesUptoRow : OpenClaim := { program := "ytbplgfhjpeeieaa", sum := "776b6a6f92604d126b2368cc914647d8d11f0c420a9e3e044ea25c16e8bbe882", func := "guideway/guidewaylaw07.FeedOutages", spec := "feedOutages", unfollowed := true, recurses := true, leaving := true, apart := false, narrowed := true }
def FeedOutagesUptoSaid : Prop := feedOutagesUptoRow.holds Try.pinned (OpenSpec.upto feedOutagesSpec)

/-- 'guidewaytop.TopFeedBooksAddUp', WHERE WHAT IT READS IS OF BULK AT MOST 1048576: true; the input reads as it did. -/
def topFeedBooksAddUpUptoRow : OpenClaim := { program := "ytbplgfhjpeeieaa", sum := "776b6a6f92604d126b2368cc914647d8d11f0c420a9e3e044ea25c16e8bbe882", func := "guideway/guidewaytop.TopFeedBooksAddUp", spec := "topFeedBooksAddUp", unfollowed := true, recurses := true, leaving := true, apart := false, narrowed := true }
def TopFeedBooksAddUpUptoSaid : Prop := topFeedBooksAddUpUptoRow.holds Try.pinned (OpenSpec.upto topFeedBooksAddUpSpec)

/-- 'guidewaytop.TopFeedBelowLimit', WHERE WHAT IT READS IS OF BULK AT MOST 1048576: true; the input reads as it did. -/
def topFeedBelowLimitUptoRow : OpenClaim := { program := "ytbplgfhjpeeieaa", sum := "776b6a6f92604d126b2368cc914647d8d11f0c420a9e3e044ea25c16e8bbe882", func := "guideway/guidewaytop.TopFeedBelowLimit", spec := "topFeedBelowLimit", unfollowed := true, recurses := true, leaving := true, apart := false, narrowed := true }
def TopFeedBelowLimitUptoSaid : Prop := topFeedBelowLimitUptoRow.holds Try.pinned (OpenSpec.upto topFeedBelowLimitSpec)

end Rows
end Go.Proofs.Ytbplgfhjpeeieaa
