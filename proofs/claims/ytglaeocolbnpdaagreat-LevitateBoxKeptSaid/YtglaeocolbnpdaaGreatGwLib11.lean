/- A region that draws its order, where one thing alone is written meanwhile. No condition. -/
import Derived.Test.YtglaeocolbnpdaaGreatGwLib10
namespace Go.Gw
open Go
section
variable {P : Program} {n : Nat} {q : Post} {ρ : Env} {w : World}
end
end Go.Gw
