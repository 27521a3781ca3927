/- An element that is a slice, read under a guard. No condition. -/
import Derived.Test.YtglaeocolbnpdaaGreatGwPlan2
namespace Go.Gw
open Go
theorem Qxs {g : Bool} {P Q : Value → Prop} (h : g = true → ∃ v, P v ∧ Q v) : ∃ v, (g = true → P v) ∧ (g = true → Q v) := by
  cases g with
  | false => exact ⟨.slice none 0 0, (fun h => nomatch h), (fun h => nomatch h)⟩
  | true => obtain ⟨v, hp, hq⟩ := h rfl; exact ⟨v, fun _ => hp, fun _ => hq⟩
theorem Qxr {g : Bool} {a b : Value} (h : g = true → a = b) : gd g a = gd g b := by
  cases g with
  | false => rfl
  | true => rw [h rfl]
end Go.Gw
