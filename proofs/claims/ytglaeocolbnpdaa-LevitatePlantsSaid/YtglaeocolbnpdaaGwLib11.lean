/- A region that draws its order, where one thing alone is written meanwhile. No condition. -/
import Derived.Test.YtglaeocolbnpdaaGwLib10
namespace Go.Gw
open Go
section
variable {P : Program} {n : Nat} {q : Post} {ρ : Env} {w : World}
/-- The same, where one thing alone is written meanwhile. -/
theorem WC_planH {H : List Value} {id : Nat} {ops : List Oper} (hm : P.follows .mixedOrders = true) (p : Pl) (hok : planOKs ops.toArray p = true) (h : ∀ w1, Ext w w1 → TP P n ops (Chg H w1) q.norm p ρ w1) : WC P n (.region id ops.toArray true) q ρ w := by
  simp only [planOKs, Bool.and_eq_true] at hok
  obtain ⟨hsel, hl, hp⟩ := hok
  have hl : p.len = ops.toArray.size := by simpa [Nat.beq_eq] using hl
  refine wp_region_any hm ?_
  have h1 := TP.toQ (q := q) hsel (fun _ _ h => h) p (Array.replicate ops.toArray.size false) ρ { w with drawn := w.drawn + 1 } (by simp) (Closed.none _ _) (by rw [unl_none _ _ (Nat.le_refl _), hl]) hp (fun _ => Chg.refl _ _) (h _ (Ext.drew w))
  have h2 := anyQ.toAny (fun _ _ _ h => h) p.len _ _ _ h1
  rw [hl] at h2
  exact h2
end
end Go.Gw
