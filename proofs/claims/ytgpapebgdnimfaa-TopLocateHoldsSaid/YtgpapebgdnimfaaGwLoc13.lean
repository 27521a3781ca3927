/- Ranges followed: both texts tell the same; a true course stays within what is told. Condition: the course keeps to the speeds and the fixes. -/
import Derived.Test.YtgpapebgdnimfaaGwLoc12
set_option maxRecDepth 4096
namespace Go.Gw
open Go
section
variable {σ ρ β : Type}
/-- A search over numbers. -/
def scan (e : Nat → Option ρ) : Nat → Nat → ρ ⊕ Unit
  | 0, _ => .inr ()
  | j + 1, k => match e k with | some r => .inl r | none => scan e j (k + 1)
theorem scan_none {e : Nat → Option ρ} : ∀ {j k}, scan e j k = .inr () → ∀ i, k ≤ i → i < k + j → e i = none
  | 0, k, _, i, h1, h2 => by omega
  | j + 1, k, h, i, h1, h2 => by
    unfold scan at h
    cases hk : e k with
    | some r => rw [hk] at h; cases h
    | none =>
      rw [hk] at h
      rcases Nat.lt_or_ge k i with h3 | h3
      · exact scan_none h i h3 (by omega)
      · obtain rfl : k = i := by omega
        exact hk
theorem loop_scan {step : σ → Option (σ ⊕ (ρ ⊕ Unit))} (n : Nat) (S : Nat → σ) (e : Nat → Option ρ)
    (hs : ∀ k, k < n → step (S k) = some (match e k with | some r => .inr (.inl r) | none => .inl (S (k + 1))))
    (he : step (S n) = some (.inr (.inr ()))) : loop step (S 0) = some (scan e n 0) := by
  have key : ∀ j k, j + k = n → loop step (S k) = some (scan e j k) := by
    intro j
    induction j with
    | zero => intro k hk; obtain rfl : k = n := by omega
              exact loop_inr he
    | succ j ih =>
      intro k hk
      have := hs k (by omega)
      unfold scan
      cases h : e k with
      | some r => rw [h] at this; exact loop_inr this
      | none => rw [h] at this; rw [loop_inl this]; exact ih (k + 1) (by omega)
  exact key n 0 (by omega)
theorem loop_two {step step' : σ → Option (σ ⊕ β)} {s : σ} (I : σ → Prop) (m : σ → Nat) (h0 : I s)
    (h : ∀ s, I s → ∃ x, step s = some x ∧ step' s = some x ∧ ∀ s', x = .inl s' → I s' ∧ m s' < m s) : ∃ o, loop step s = some o ∧ loop step' s = some o := by
  generalize hk : m s = k
  induction k using Nat.strongRecOn generalizing s with
  | _ k ih =>
    obtain ⟨x, h1, h2, h3⟩ := h s h0
    cases x with
    | inl s' =>
      obtain ⟨i1, i2⟩ := h3 s' rfl
      rw [loop_inl h1, loop_inl h2]
      exact ih (m s') (by omega) i1 rfl
    | inr o => exact ⟨o, loop_inr h1, loop_inr h2⟩
end
/-- The time of the fix before. -/
def lastAt (l : List LocateFix) : Nat → Int
  | 0 => 0
  | k + 1 => (l.getD k default).At
def fxE (last : Int) (f : LocateFix) : Int := if tiE f.At ≠ 0 then tiE f.At else if rgE f.Place ≠ 0 then rgE f.Place else if last ≤ f.At then 0 else 9
def fxO (l : List LocateFix) (k : Nat) : Option (Range × Int × Int) := if fxE (lastAt l k) (l.getD k default) = 0 then none else some (rg0, 0, fxE (lastAt l k) (l.getD k default))
theorem fx_frst (last : Int) (f : LocateFix) : frst [tiE f.At, rgE f.Place, bif decide (last ≤ f.At) then 0 else 9] = fxE last f := by
  unfold fxE
  by_cases h1 : tiE f.At = 0
  · by_cases h2 : rgE f.Place = 0
    · by_cases h3 : last ≤ f.At
      · simp [frst, h1, h2, h3]
      · simp [frst, h1, h2, h3]
    · simp [frst, h1, h2]
  · simp [frst, h1]
theorem follow0_ok (l : List LocateFix) (hl : l.length ≤ 40) : loop (locate_Follow_s0 l) (0, 0) = some (scan (fxO l) l.length 0) := by
  refine loop_scan l.length (fun k => (lastAt l k, (k : Int))) (fxO l) (fun k hk => ?_) ?_
  · unfold locate_Follow_s0
    simp only
    rw [lt_nat hk, cond_true, idx_nat hk, Option.bind_some, timeErr_ok, Option.bind_some, placesErr_ok, Option.bind_some, unless_ok, Option.bind_some, first_ok _ (by simp), fx_frst, Option.bind_some]
    have hg : l.getD k default = l[k] := by simp [List.getD, hk]
    unfold fxO
    rw [hg]
    by_cases h : fxE (lastAt l k) l[k] = 0
    · simp only [h, decide_true, Bool.not_true, cond_false, if_true]
      rw [w64n k (by omega)]
      simp only [lastAt, hg]
    · simp only [h, decide_false, Bool.not_false, cond_true, if_false]
      rfl
  · unfold locate_Follow_s0
    simp only
    rw [lt_nat_no]; rfl
theorem fxE_0 {last : Int} {f : LocateFix} (h : fxE last f = 0) : 0 ≤ f.At ∧ f.At ≤ 10000000 ∧ Okg f.Place ∧ last ≤ f.At := by
  unfold fxE at h
  by_cases h1 : tiE f.At = 0
  · by_cases h2 : rgE f.Place = 0
    · by_cases h3 : last ≤ f.At
      · exact ⟨(tiE_0 h1).1, (tiE_0 h1).2, rgE_0.1 h2, h3⟩
      · simp [h1, h2, h3] at h
    · simp [h1, h2] at h
  · simp [h1] at h
/-- A followed range. -/
def FI (n : Nat) (s : Int × Int × Int) : Prop := 1 ≤ s.1 ∧ s.1 ≤ n ∧ 0 ≤ s.2.1 ∧ s.2.1 ≤ 1000000000 ∧ 0 ≤ s.2.2 ∧ s.2.2 ≤ 1000000000
/-- A true course through the fixes. -/
structure Trk (s : Range) (l : List LocateFix) (P : Nat → Int) : Prop where
  fix : ∀ k (hk : k < l.length), 0 ≤ l[k].At ∧ l[k].At ≤ 10000000 ∧ Okg l[k].Place ∧ l[k].Place.Lo ≤ P k ∧ P k ≤ l[k].Place.Hi
  stp : ∀ k (hk : k + 1 < l.length), ∃ t v, 0 ≤ t ∧ s.Lo ≤ v ∧ v ≤ s.Hi ∧ l[k + 1].At = l[k].At + 1000 * t ∧ P (k + 1) = P k + v * t
theorem tiE_of {n : Int} (h : 0 ≤ n ∧ n ≤ 10000000) : tiE n = 0 := by unfold tiE; rw [if_pos h]
theorem Trk.ok {s : Range} {l : List LocateFix} {P : Nat → Int} (h : Trk s l P) (k : Nat) (hk : k < l.length) : fxO l k = none := by
  obtain ⟨h1, h2, h3, _, _⟩ := h.fix k hk
  have hg : l.getD k default = l[k] := by simp [List.getD, hk]
  have hlast : lastAt l k ≤ l[k].At := by
    cases k with
    | zero => exact h1
    | succ j =>
      obtain ⟨t, v, ht, _, _, h4, _⟩ := h.stp j hk
      have hj : l.getD j default = l[j] := by simp [List.getD, show j < l.length by omega]
      simp only [lastAt, hj]
      omega
  unfold fxO fxE
  rw [hg, tiE_of ⟨h1, h2⟩, rgE_0.2 h3]
  simp [hlast]
theorem mvR_in {lo hi p v t : Int} {s : Range} (h1 : lo ≤ p) (h2 : p ≤ hi) (h3 : s.Lo ≤ v) (h4 : v ≤ s.Hi) (ht : 0 ≤ t) : (mvR ⟨lo, hi⟩ s (1000 * t)).Lo ≤ p + v * t ∧ p + v * t ≤ (mvR ⟨lo, hi⟩ s (1000 * t)).Hi := by
  unfold mvR
  simp only
  have e1 : s.Lo * (1000 * t) = (s.Lo * t) * 1000 := by rw [Int.mul_comm 1000 t, Int.mul_assoc]
  have e2 : s.Hi * (1000 * t) = (s.Hi * t) * 1000 := by rw [Int.mul_comm 1000 t, Int.mul_assoc]
  have b1 : s.Lo * t ≤ v * t := Int.mul_le_mul_of_nonneg_right h3 ht
  have b2 : v * t ≤ s.Hi * t := Int.mul_le_mul_of_nonneg_right h4 ht
  rw [e1, e2]
  generalize s.Lo * t = a at *
  generalize s.Hi * t = b at *
  generalize v * t = c at *
  omega
theorem scan_all {ρ : Type} {e : Nat → Option ρ} : ∀ {j k}, (∀ i, k ≤ i → i < k + j → e i = none) → scan e j k = .inr ()
  | 0, k, _ => rfl
  | j + 1, k, h => by
    unfold scan
    rw [h k (by omega) (by omega)]
    exact scan_all fun i h1 h2 => h i (by omega) (by omega)
end Go.Gw
