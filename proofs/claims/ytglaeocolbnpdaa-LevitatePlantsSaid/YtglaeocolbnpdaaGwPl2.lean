/- Loops told by a search, a sweep over a list, a sweep over numbers. No condition. -/
import Derived.Test.YtglaeocolbnpdaaGwPl
namespace Go.Gw
section
variable {α β γ σ ρ : Type}
/-- A search from the front: the first that p holds of. -/
def srch (p : α → Bool) (res : Nat → α → ρ) : Nat → List α → ρ ⊕ Unit
  | _, [] => .inr ()
  | k, x :: xs => if p x then .inl (res k x) else srch p res (k + 1) xs
theorem loop_srch {step : Int → Option (Int ⊕ (ρ ⊕ Unit))} (xs : List α) (p : α → Bool) (res : Nat → α → ρ)
    (hs : ∀ k (hk : k < xs.length), step (k : Int) = (bif p xs[k] then some (.inr (.inl (res k xs[k]))) else some (.inl ((k + 1 : Nat) : Int))))
    (he : step (xs.length : Int) = some (.inr (.inr ()))) : loop step 0 = some (srch p res 0 xs) := by
  have key : ∀ j k, j + k = xs.length → loop step (k : Int) = some (srch p res k (xs.drop k)) := by
    intro j
    induction j with
    | zero =>
      intro k hk
      obtain rfl : k = xs.length := by omega
      rw [List.drop_length]
      exact loop_inr he
    | succ j ih =>
      intro k hk
      have hlt : k < xs.length := by omega
      rw [List.drop_eq_getElem_cons hlt]
      have := hs k hlt
      cases hp : p xs[k] with
      | true => rw [hp] at this; simp only [srch, hp, if_true]; exact loop_inr this
      | false => rw [hp] at this; simp only [srch, hp]; rw [loop_inl this]; exact ih (k + 1) (by omega)
  have := key xs.length 0 (by omega)
  simpa using this

/-- A sweep over a list. -/
def fld (f : Nat → γ → α → γ) : Nat → γ → List α → γ
  | _, a, [] => a
  | k, a, x :: xs => fld f (k + 1) (f k a x) xs
theorem loop_fld {step : σ → Option (σ ⊕ β)} (xs : List α) (f : Nat → γ → α → γ) (S : γ → Nat → σ) (o : γ → β) (Inv : γ → Nat → Prop) (a0 : γ) (h0 : Inv a0 0)
    (hs : ∀ k (hk : k < xs.length) a, Inv a k → step (S a k) = some (.inl (S (f k a xs[k]) (k + 1))) ∧ Inv (f k a xs[k]) (k + 1))
    (he : ∀ a, Inv a xs.length → step (S a xs.length) = some (.inr (o a))) : loop step (S a0 0) = some (o (fld f 0 a0 xs)) ∧ Inv (fld f 0 a0 xs) xs.length := by
  have key : ∀ j k a, j + k = xs.length → Inv a k → loop step (S a k) = some (o (fld f k a (xs.drop k))) ∧ Inv (fld f k a (xs.drop k)) xs.length := by
    intro j
    induction j with
    | zero =>
      intro k a hk hI
      obtain rfl : k = xs.length := by omega
      rw [List.drop_length]
      exact ⟨loop_inr (he a hI), hI⟩
    | succ j ih =>
      intro k a hk hI
      have hlt : k < xs.length := by omega
      rw [List.drop_eq_getElem_cons hlt]
      have := hs k hlt a hI
      rw [loop_inl this.1]
      exact ih (k + 1) _ (by omega) this.2
  have := key xs.length 0 a0 (by omega) h0
  simpa using this

/-- A sweep over the numbers below n. -/
def rng (f : Nat → γ → γ) (a : γ) : Nat → γ
  | 0 => a
  | n + 1 => f n (rng f a n)
theorem loop_rng {step : σ → Option (σ ⊕ β)} (n : Nat) (f : Nat → γ → γ) (S : γ → Nat → σ) (o : γ → β) (Inv : γ → Nat → Prop) (a0 : γ) (h0 : Inv a0 0)
    (hs : ∀ k, k < n → ∀ a, Inv a k → step (S a k) = some (.inl (S (f k a) (k + 1))) ∧ Inv (f k a) (k + 1))
    (he : ∀ a, Inv a n → step (S a n) = some (.inr (o a))) : loop step (S a0 0) = some (o (rng f a0 n)) ∧ Inv (rng f a0 n) n := by
  have key : ∀ k, k ≤ n → Inv (rng f a0 k) k ∧ loop step (S a0 0) = loop step (S (rng f a0 k) k) := by
    intro k
    induction k with
    | zero => intro _; exact ⟨h0, rfl⟩
    | succ k ih =>
      intro hk
      obtain ⟨h1, h2⟩ := ih (by omega)
      have := hs k (by omega) _ h1
      exact ⟨this.2, by rw [h2, loop_inl this.1]; rfl⟩
  obtain ⟨h1, h2⟩ := key n (Nat.le_refl _)
  exact ⟨by rw [h2]; exact loop_inr (he _ h1), h1⟩
theorem w64n (k : Nat) (h : k < 4611686018427387904) : w64 ((k : Int) + 1) = ((k + 1 : Nat) : Int) := by rw [w64_id (by omega)]; omega
theorem lt_nat {k n : Nat} (h : k < n) : decide ((k : Int) < (n : Int)) = true := by simp; omega
theorem lt_nat_no (n : Nat) : decide ((n : Int) < (n : Int)) = false := by simp
end
end Go.Gw
