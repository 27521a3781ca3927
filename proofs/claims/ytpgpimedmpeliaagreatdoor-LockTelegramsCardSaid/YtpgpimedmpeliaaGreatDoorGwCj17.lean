/- Goroutines: goroutine 0's walk among its workers gets to its end. No condition. -/
import Derived.Test.YtpgpimedmpeliaaGreatDoorGwCj16
set_option linter.unusedVariables false
set_option linter.unusedSimpArgs false
set_option linter.unusedSectionVars false
set_option linter.unusedVariables false
namespace Go.Gw
open Go Go.Conc
section
variable {P:Program} {Sh:Loc→Prop} {c:Nat} {Fs:Nat→Prop} {Ws:World} {S:Goroutine→World→Prop}

end
end Go.Gw
