/- An element that is a slice, read under a guard. No condition. -/
import Derived.Test.YtglaeocolbnpdaaGreatGwPlan2
namespace Go.Gw
open Go
end Go.Gw
