/- LocateFollows answers true. Condition: none. -/
import Derived.Test.YtgpapebgdnimfaaDoorGwLoc13
import Derived.Test.YtgpapebgdnimfaaDoorGwLawLocateFollows
set_option maxRecDepth 4096
namespace Go.Gw
open Go
theorem LocateFollows_true (p : Range) (l : List LocateFix) : law04_LocateFollows_spec p l = some true := by
  unfold law04_LocateFollows_spec
  rw [awake_ok]
  simp only [Option.bind_some, Bool.not_true, cond_false]
  by_cases hc : 42 < (l.length : Int)
  · simp [hc]
  · simp only [hc, decide_false, cond_false]
    rw [CopyFixes_ok l (by omega)]
    obtain ⟨r, h1, h2⟩ := Follow_same p l
    simp only [Option.bind_some]
    rw [h1, h2]
    simp
end Go.Gw
