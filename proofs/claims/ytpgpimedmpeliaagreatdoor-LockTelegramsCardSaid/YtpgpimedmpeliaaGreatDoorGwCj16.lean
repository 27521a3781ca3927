/- Goroutines: THE RUN GETS BEHIND THE LAST RECEIVE, on whatever tape. No condition. -/
import Derived.Test.YtpgpimedmpeliaaGreatDoorGwCj15
set_option linter.unusedVariables false
set_option linter.unusedSimpArgs false
set_option linter.unusedSectionVars false
set_option linter.unusedVariables false
namespace Go.Gw
open Go Go.Conc
section
variable {P:Program} {Sh:Loc→Prop} {c:Nat} {Fs:Nat→Prop} {Ws:World} {mp:Bool} {Z:Nat→Prop} {orig:Nat→Option Obj} {O:List (Value→World→Prop)} {g:Goroutine} {w:World}
variable {vs:Nat→Option View} {ph:Nat→Value→World→Prop} {A:List Nat} {τ:List Tr} {gs:Array Goroutine} {W:World} {t:Trace} {S:Goroutine→World→Prop}

end
end Go.Gw
