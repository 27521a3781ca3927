/- An element that is a slice, read under a guard. No condition. -/
import Derived.Test.YtbigilldfhjedaaGreatDoorGwLib5
set_option linter.unusedVariables false
set_option linter.unusedSimpArgs false
set_option linter.unusedSectionVars false
set_option linter.unusedSectionVars false
namespace Go.Gw
open Go
theorem Qys {g:Bool} {P:List Value->Prop} {Q:Value->Prop} {C:Value->List Value} (h:g=true->∃ cs,P cs/\∃ v,Q v/\cs=C v):∃ v,(g=true->P (C v))/\(g=true->Q v):=by
 cases g with
 | false=>exact ⟨.slice none 0 0,(fun h=>nomatch h),(fun h=>nomatch h)⟩
 | true=>obtain ⟨cs,hp,v,hq,rfl⟩:=h rfl;exact ⟨v,fun _=>hp,fun _=>hq⟩
end Go.Gw
