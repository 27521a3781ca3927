/- Effects under a condition, with a result in memory. No condition. -/
import Derived.Test.YtglaeocolbnpdaaGreatGwLib9
namespace Go.Gw
open Go
section
variable {P : Program} {n : Nat} {ρ : Env} {w : World}
theorem T0_gx {ops : Array Oper} {K : Env → World → Prop} {o : Oper} {os : List Oper} (Φ : Value → World → Prop) (b : Bool) (hw : Wanted ops o n ρ = b) (ht : b = true → Eff P o n ρ w (fun v w' => Ext w w' ∧ Φ v w'))
    (h : ∀ v w', Ext w w' → (b = true → Φ v w') → T0 P n ops K os (updo ρ o.dst (gd b v)) w') : T0 P n ops K (o :: os) ρ w :=
  T0_ge b hw (fun hb => (ht hb).mono fun v w' ⟨he, hv⟩ => by have := h v w' he (fun _ => hv); rw [gd_true hb] at this; exact this)
    (fun hb => by have := h undef w (Chg.refl _ _) (fun hb' => by rw [hb] at hb'; cases hb'); rw [gd_false hb] at this; exact this)
end
end Go.Gw
