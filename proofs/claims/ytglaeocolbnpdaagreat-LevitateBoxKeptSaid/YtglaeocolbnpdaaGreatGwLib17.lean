/- An element that is a slice, read under a guard. No condition. -/
import Derived.Test.YtglaeocolbnpdaaGreatGwLib14
namespace Go.Gw
open Go
theorem guard_slice {g : Bool} {P : List Value → Prop} {Q : Value → Prop} (h : g = true → ∃ cs, P cs ∧ ∃ v, cs = [v] ∧ Q v) : ∃ v, (g = true → P [v]) ∧ (g = true → Q v) := by
  cases g with
  | false => exact ⟨.slice none 0 0, (fun h => nomatch h), (fun h => nomatch h)⟩
  | true => obtain ⟨cs, hp, v, rfl, hq⟩ := h rfl; exact ⟨v, fun _ => hp, fun _ => hq⟩
end Go.Gw
