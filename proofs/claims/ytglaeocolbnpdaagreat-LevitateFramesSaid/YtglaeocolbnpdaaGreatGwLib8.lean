/- Making a slice of zeros, storing a part of an element. No condition. -/
import Derived.Test.YtglaeocolbnpdaaGreatGwPlan
import Derived.Laws.OwnMore
namespace Go.Gw
open Go
section
variable {P : Program} {n : Nat} {ρ : Env} {w : World}
variable {d : Option Nat} {t T U : TypeId} {p : String} {af : Array Edge} {gu : Option (Nat × Bool)} {x y z : Operand}

theorem eff_storeOC {α : Type} [Rep α] {e : TypeId} {L : List Value} {v : Value} {xs : List α} {i : Int} {el y' : α} {off k : Nat} {u : Value} {vs : List Value} {K : Value → World → Prop} (hs : Size P T k) (hc : u.cells.toList = vs) (hk : vs.length = k) (hown : Own e L w v xs) (hv : v ∈ L) (hel : idx xs i = some el)
    (hx : evO n ρ x = .pointer (some ((elemAddr v i.toNat (Rep.n α)).add off))) (hy : evO n ρ y = u) (hl : Nat.ble (off + k) (Rep.n α) = true) (h1 : ∀ c ∈ vs, c.oneCell' = true)
    (hset : ∀ w' cs, Rep.rd L w' cs el → Rep.rd L w' (setAt cs off vs) y')
    (h : ∀ w', Chg [v] w w' → Own e L w' v (xs.set i.toNat y') → K undef w') : Eff P ⟨d, .store T x y, t, p, af, gu⟩ n ρ w K := by
  subst hc; subst hk
  have e : u.cells.toList.length = u.cells.size := by simp
  exact eff_storeO (by rw [← e]; exact hs) hown hv hel hx hy (by rw [← e]; simpa using hl) h1 hset h

def mk {α : Type} (i : Int) (zero : α) : Option (List α) := if 0 ≤ i ∧ i ≤ 1048576 then some (List.replicate i.toNat zero) else none
theorem Elems.replicate {α : Type} [Rep α] {L : List Value} {c : Value} {zero : α} (h1 : Rep.n α = 1) (hz : Rep.rd L w [c] zero) : ∀ m : Nat, Elems L w (List.replicate m c) (List.replicate m zero)
  | 0 => Elems.nil
  | m + 1 => by
    rw [List.replicate_succ, List.replicate_succ]
    exact Elems.cons (cs := [c]) hz (Elems.replicate h1 hz m)

end
end Go.Gw
