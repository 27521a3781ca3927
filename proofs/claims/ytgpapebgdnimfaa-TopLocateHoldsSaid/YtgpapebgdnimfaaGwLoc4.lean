/- Steps counted; remainders joined: what both texts compute. Condition: lists are short. -/
import Derived.Test.YtgpapebgdnimfaaGwLoc3
set_option maxRecDepth 4096
namespace Go.Gw
open Go

/-- A sweep that may end early. -/
def fldx {α γ ρ : Type} (f : Nat → γ → α → ρ ⊕ γ) : Nat → γ → List α → ρ ⊕ γ
  | _, a, [] => .inr a
  | k, a, x :: xs => match f k a x with | .inl r => .inl r | .inr a' => fldx f (k + 1) a' xs
def mapR {ρ γ μ : Type} (o : γ → μ) : ρ ⊕ γ → ρ ⊕ μ
  | .inl r => .inl r
  | .inr a => .inr (o a)
theorem loop_fldx {α γ ρ μ σ : Type} {step : σ → Option (σ ⊕ (ρ ⊕ μ))} (xs : List α) (f : Nat → γ → α → ρ ⊕ γ) (S : γ → Nat → σ) (o : γ → μ) (Inv : γ → Nat → Prop) (a0 : γ) (h0 : Inv a0 0)
    (hs : ∀ k (hk : k < xs.length) a, Inv a k → (∃ r, f k a xs[k] = .inl r ∧ step (S a k) = some (.inr (.inl r))) ∨ (∃ a', f k a xs[k] = .inr a' ∧ step (S a k) = some (.inl (S a' (k + 1))) ∧ Inv a' (k + 1)))
    (he : ∀ a, Inv a xs.length → step (S a xs.length) = some (.inr (.inr (o a)))) :
    loop step (S a0 0) = some (mapR o (fldx f 0 a0 xs)) ∧ ∀ a, fldx f 0 a0 xs = .inr a → Inv a xs.length := by
  have key : ∀ j k a, j + k = xs.length → Inv a k → loop step (S a k) = some (mapR o (fldx f k a (xs.drop k))) ∧ ∀ a', fldx f k a (xs.drop k) = .inr a' → Inv a' xs.length := by
    intro j
    induction j with
    | zero =>
      intro k a hk hI
      obtain rfl : k = xs.length := by omega
      rw [List.drop_length]
      refine ⟨loop_inr (he a hI), fun a' h => ?_⟩
      simp only [fldx, Sum.inr.injEq] at h
      subst h; exact hI
    | succ j ih =>
      intro k a hk hI
      have hlt : k < xs.length := by omega
      rw [List.drop_eq_getElem_cons hlt]
      rcases hs k hlt a hI with ⟨r, h1, h2⟩ | ⟨a', h1, h2, h3⟩
      · simp only [fldx, h1, mapR]
        exact ⟨loop_inr h2, fun a' h => by cases h⟩
      · simp only [fldx, h1]
        rw [loop_inl h2]
        exact ih (k + 1) a' (by omega) h3
  have := key xs.length 0 a0 (by omega) h0
  simpa using this

/-! ### Steps -/
def tn (s : Int) : Int := ([0, 1, 3, 2] : List Int).getD s.toNat 0
def stp (p c : Int) (a : Int × Int) : Int × Int :=
  let d := (tn c - tn p + 4) % 4
  if d = 1 then (a.1 + 1, a.2) else if d = 2 then (a.1, a.2 + 1) else if d = 3 then (a.1 - 1, a.2) else a
def countF (l : List Int) : Int × Int := rng (fun k a => stp (l.getD k 0) (l.getD (k + 1) 0) a) (0, 0) (l.length - 1)
def St4 (l : List Int) : Prop := ∀ v ∈ l, 0 ≤ v ∧ v ≤ 3
theorem tn_ok {s : Int} (h0 : 0 ≤ s) (h1 : s ≤ 3) : idx ([0, 1, 3, 2] : List Int) s = some (tn s) ∧ 0 ≤ tn s ∧ tn s ≤ 3 := by
  have : s = 0 ∨ s = 1 ∨ s = 2 ∨ s = 3 := by omega
  rcases this with rfl | rfl | rfl | rfl <;> exact ⟨rfl, by decide, by decide⟩
theorem stp_bound (p c : Int) (a : Int × Int) (k : Nat) (h : -(k : Int) ≤ a.1 ∧ a.1 ≤ k ∧ 0 ≤ a.2 ∧ a.2 ≤ k) : -((k + 1 : Nat) : Int) ≤ (stp p c a).1 ∧ (stp p c a).1 ≤ (k + 1 : Nat) ∧ 0 ≤ (stp p c a).2 ∧ (stp p c a).2 ≤ (k + 1 : Nat) := by
  unfold stp
  simp only
  split
  · simp only; omega
  · split
    · simp only; omega
    · split
      · simp only; omega
      · omega
theorem countLoop {step : (Int × Int × Int) → Option ((Int × Int × Int) ⊕ (Int × Int))} (l : List Int) (hl : l.length < 1073741824)
    (hs : ∀ (k : Nat) (_ : k + 1 < l.length) (a : Int × Int), -(k : Int) ≤ a.1 ∧ a.1 ≤ k ∧ 0 ≤ a.2 ∧ a.2 ≤ k → step (((k + 1 : Nat) : Int), a.1, a.2) = some (.inl (((k + 1 + 1 : Nat) : Int), (stp (l.getD k 0) (l.getD (k + 1) 0) a).1, (stp (l.getD k 0) (l.getD (k + 1) 0) a).2)))
    (he : ∀ (n : Nat) (a b : Int), ¬ ((n : Int) < l.length) → step ((n : Int), a, b) = some (.inr (a, b))) : loop step (1, 0, 0) = some (countF l) := by
  have h := loop_rng (step := step) (l.length - 1) (fun k (a : Int × Int) => stp (l.getD k 0) (l.getD (k + 1) 0) a) (fun a k => (((k + 1 : Nat) : Int), a.1, a.2)) (fun a => (a.1, a.2)) (fun a k => -(k : Int) ≤ a.1 ∧ a.1 ≤ k ∧ 0 ≤ a.2 ∧ a.2 ≤ k) (0, 0) (by simp)
    (fun k hk a ha => ⟨hs k (by omega) a ha, stp_bound _ _ a k ha⟩) (fun a _ => he _ _ _ (by omega))
  exact h.1
theorem mem_getD {l : List Int} {k : Nat} (h : k < l.length) : l.getD k 0 ∈ l := by rw [getD_in h]; exact List.getElem_mem _
def statesE (l : List Int) : Int := if 200 < (l.length : Int) then 8 else if (l.any fun v => !(decide (0 ≤ v) && decide (v ≤ 3))) then 2 else 0
theorem statesE_0 {l : List Int} (h : statesE l = 0) : l.length ≤ 200 ∧ St4 l := by
  unfold statesE at h
  split at h
  · cases h
  · split at h
    · cases h
    · rename_i h1 h2
      refine ⟨by omega, fun v hv => ?_⟩
      simp only [List.any_eq_true, not_exists, not_and] at h2
      have := h2 v hv
      simpa using this
end Go.Gw
