/- Loops told by a search, a sweep over a list, a sweep over numbers. No condition. -/
import Derived.Test.YtglaeocolbnpdaaGreatGwPl
namespace Go.Gw
section
variable {α β γ σ ρ : Type}
def srch (p : α → Bool) (res : Nat → α → ρ) : Nat → List α → ρ ⊕ Unit
  | _, [] => .inr ()
  | k, x :: xs => if p x then .inl (res k x) else srch p res (k + 1) xs
def fld (f : Nat → γ → α → γ) : Nat → γ → List α → γ
  | _, a, [] => a
  | k, a, x :: xs => fld f (k + 1) (f k a x) xs
def rng (f : Nat → γ → γ) (a : γ) : Nat → γ
  | 0 => a
  | n + 1 => f n (rng f a n)
theorem loop_rng {step : σ → Option (σ ⊕ β)} (n : Nat) (f : Nat → γ → γ) (S : γ → Nat → σ) (o : γ → β) (Inv : γ → Nat → Prop) (a0 : γ) (h0 : Inv a0 0)
    (hs : ∀ k, k < n → ∀ a, Inv a k → step (S a k) = some (.inl (S (f k a) (k + 1))) ∧ Inv (f k a) (k + 1))
    (he : ∀ a, Inv a n → step (S a n) = some (.inr (o a))) : loop step (S a0 0) = some (o (rng f a0 n)) ∧ Inv (rng f a0 n) n := by
  have key : ∀ k, k ≤ n → Inv (rng f a0 k) k ∧ loop step (S a0 0) = loop step (S (rng f a0 k) k) := by
    intro k
    induction k with
    | zero => intro _; exact ⟨h0, rfl⟩
    | succ k ih =>
      intro hk
      obtain ⟨h1, h2⟩ := ih (by omega)
      have := hs k (by omega) _ h1
      exact ⟨this.2, by rw [h2, loop_inl this.1]; rfl⟩
  obtain ⟨h1, h2⟩ := key n (Nat.le_refl _)
  exact ⟨by rw [h2]; exact loop_inr (he _ h1), h1⟩
theorem w64n (k : Nat) (h : k < 4611686018427387904) : w64 ((k : Int) + 1) = ((k + 1 : Nat) : Int) := by rw [w64_id (by omega)]; omega
theorem lt_nat {k n : Nat} (h : k < n) : decide ((k : Int) < (n : Int)) = true := by simp; omega
theorem lt_nat_no (n : Nat) : decide ((n : Int) < (n : Int)) = false := by simp
end
end Go.Gw
