/- The examples with which each statement of the chapter begins. No condition. -/
import Derived.Test.YtgpapebgdnimfaaGwLoc9
set_option maxRecDepth 8192
namespace Go.Gw
open Go

def roundT : LocateTrack := ⟨[0, 0, 1, 1, 1, 0, 1], 3, 100, 2, 1000, 5, 0, 0, true⟩
end Go.Gw
