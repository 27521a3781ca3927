/- Loops told by a search, a sweep over a list, a sweep over numbers. No condition. -/
import Derived.Test.YtglaeocolbnpdaaGreatGwPl
namespace Go.Gw
section
variable {α β γ σ ρ : Type}
def srch (p : α → Bool) (res : Nat → α → ρ) : Nat → List α → ρ ⊕ Unit
  | _, [] => .inr ()
  | k, x :: xs => if p x then .inl (res k x) else srch p res (k + 1) xs
def fld (f : Nat → γ → α → γ) : Nat → γ → List α → γ
  | _, a, [] => a
  | k, a, x :: xs => fld f (k + 1) (f k a x) xs
def rng (f : Nat → γ → γ) (a : γ) : Nat → γ
  | 0 => a
  | n + 1 => f n (rng f a n)
theorem w64n (k : Nat) (h : k < 4611686018427387904) : w64 ((k : Int) + 1) = ((k + 1 : Nat) : Int) := by rw [w64_id (by omega)]; omega
theorem lt_nat {k n : Nat} (h : k < n) : decide ((k : Int) < (n : Int)) = true := by simp; omega
theorem lt_nat_no (n : Nat) : decide ((n : Int) < (n : Int)) = false := by simp
end
end Go.Gw
