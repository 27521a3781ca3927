/- LevitatePlants answers true. Condition: none. -/
import Derived.Test.YtglaeocolbnpdaaGwLev9
import Derived.Test.YtglaeocolbnpdaaGwLawLevitatePlants
set_option maxRecDepth 8192
namespace Go.Gw
open Go
theorem LevitatePlants_true (p : LevitatePlant) : law02_LevitatePlants_spec p = some true := by
  refine Runs.eq ?_
  unfold law02_LevitatePlants_spec
  refine Runs.call awake_ok ?_
  refine Runs.bif_f rfl ?_
  refine Runs.callR (Few_run p) fun b hb => ?_
  refine Runs.bif (fun _ => Runs.some rfl) fun h2 => ?_
  have hsh := sh_few (hb (by simpa using h2))
  refine Runs.call (CopyPlant_ok p hsh) ?_
  refine Runs.call (lCheckPlant_ok p hsh) ?_
  refine Runs.call (rCheckPlant_ok p hsh) ?_
  exact Runs.some (by simp)
end Go.Gw
