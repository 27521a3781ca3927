/- All printed functions. No condition. -/
import Derived.Test.YtglaeocolbnpdaaGwFnE
