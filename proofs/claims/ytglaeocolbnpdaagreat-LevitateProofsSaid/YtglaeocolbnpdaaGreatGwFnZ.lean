/- All printed functions. No condition. -/
import Derived.Test.YtglaeocolbnpdaaGreatGwFnE
