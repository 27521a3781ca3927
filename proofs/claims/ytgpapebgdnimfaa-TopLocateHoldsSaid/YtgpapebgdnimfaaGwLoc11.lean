/- Ranges fused, by the search from beginning to beginning; ranges moved, and followed: what both texts compute. Condition: what comes in is right, or an error is told. -/
import Derived.Test.YtgpapebgdnimfaaGwLoc10
import Derived.Test.YtgpapebgdnimfaaGwFnB
set_option maxRecDepth 4096
namespace Go.Gw
open Go

/-! ### The search -/
/-- The least one of the numbers v(r) of those ranges that p holds of. -/
def leastB (p : Range → Bool) (v : Range → Int) : Int × Bool → List Range → Int × Bool
  | a, [] => a
  | a, r :: l => leastB p v (if p r && (!a.2 || decide (v r < a.1)) then (v r, true) else a) l
theorem leastB_spec (p : Range → Bool) (v : Range → Int) : ∀ (l : List Range) (a : Int × Bool),
    ((leastB p v a l).2 = false → a.2 = false ∧ ∀ r ∈ l, p r = false) ∧
    ((leastB p v a l).2 = true → ((∃ r ∈ l, p r = true ∧ v r = (leastB p v a l).1) ∨ (a.2 = true ∧ a.1 = (leastB p v a l).1)) ∧ (∀ r ∈ l, p r = true → (leastB p v a l).1 ≤ v r) ∧ (a.2 = true → (leastB p v a l).1 ≤ a.1))
  | [], a => ⟨fun h => ⟨h, fun r hr => by cases hr⟩, fun h => ⟨.inr ⟨h, rfl⟩, (fun r hr => by cases hr), fun _ => Int.le_refl _⟩⟩
  | r :: l, a => by
    have ih := leastB_spec p v l (if p r && (!a.2 || decide (v r < a.1)) then (v r, true) else a)
    simp only [leastB]
    by_cases hc : (p r && (!a.2 || decide (v r < a.1))) = true
    · rw [if_pos hc] at ih ⊢
      have hp : p r = true := by simp only [Bool.and_eq_true] at hc; exact hc.1
      refine ⟨fun h => absurd (ih.1 h).1 (by simp), fun h => ?_⟩
      obtain ⟨h1, h2, h3⟩ := ih.2 h
      have h3 := h3 rfl
      simp only at h1 h3
      refine ⟨?_, ?_, fun ha => ?_⟩
      · rcases h1 with ⟨r', hr', hh⟩ | ⟨_, hh⟩
        · exact .inl ⟨r', List.mem_cons_of_mem _ hr', hh⟩
        · exact .inl ⟨r, List.mem_cons_self .., hp, hh⟩
      · intro r' hr' hp'
        rcases List.mem_cons.1 hr' with rfl | hr'
        · exact h3
        · exact h2 r' hr' hp'
      · simp only [Bool.and_eq_true, Bool.or_eq_true, Bool.not_eq_true', decide_eq_true_eq] at hc
        rcases hc.2 with hc2 | hc2
        · rw [ha] at hc2; cases hc2
        · omega
    · rw [if_neg hc] at ih ⊢
      refine ⟨fun h => ?_, fun h => ?_⟩
      · obtain ⟨h1, h2⟩ := ih.1 h
        refine ⟨h1, fun r' hr' => ?_⟩
        rcases List.mem_cons.1 hr' with rfl | hr'
        · cases hp : p r' with
          | false => rfl
          | true => exact absurd (by simp [hp, h1]) hc
        · exact h2 r' hr'
      · obtain ⟨h1, h2, h3⟩ := ih.2 h
        refine ⟨?_, ?_, h3⟩
        · rcases h1 with ⟨r', hr', hh⟩ | hh
          · exact .inl ⟨r', List.mem_cons_of_mem _ hr', hh⟩
          · exact .inr hh
        · intro r' hr' hp'
          rcases List.mem_cons.1 hr' with rfl | hr'
          · simp only [hp', Bool.true_and, Bool.or_eq_true, Bool.not_eq_true', decide_eq_true_eq, not_or] at hc
            have ha : a.2 = true := by
              cases h : a.2 with
              | true => rfl
              | false => exact absurd h hc.1
            have := h3 ha
            omega
          · exact h2 r' hr' hp'
/-- Up to where is all told? -/
def told (out : List Range) : Int := match out.getLast? with | none => -1 | some r => r.Hi
def pB (l : List Range) (wrong : Int) (out : List Range) (r : Range) : Bool := decide ((l.length : Int) - wrong ≤ cov l r.Lo) && (decide (out.length = 0) || decide (told out < r.Lo))
def pE (l : List Range) (wrong lo : Int) (r : Range) : Bool := decide (lo ≤ r.Hi) && decide ((l.length : Int) - wrong ≤ cov l r.Hi) && !decide ((l.length : Int) - wrong ≤ cov l (r.Hi + 1))
theorem leastB_fld (p : Range → Bool) (v : Range → Int) : ∀ (l : List Range) (k : Nat) (a : Int × Bool), fld (fun _ (a : Int × Bool) r => if p r && (!a.2 || decide (v r < a.1)) then (v r, true) else a) k a l = leastB p v a l
  | [], _, _ => rfl
  | r :: l, k, a => by simp only [fld, leastB]; exact leastB_fld p v l _ _
theorem cov_up {l : List Range} {p : Int} (h : cov l p < cov l (p + 1)) : ∃ r ∈ l, r.Lo = p + 1 := by
  induction l with
  | nil => simp [cov] at h
  | cons r l ih =>
    simp only [cov] at h
    by_cases hr : r.Lo = p + 1
    · exact ⟨r, List.mem_cons_self .., hr⟩
    · have : cov l p < cov l (p + 1) := by
        split at h <;> split at h <;> omega
      obtain ⟨s, hs, h2⟩ := ih this
      exact ⟨s, List.mem_cons_of_mem _ hs, h2⟩
theorem cov_down {l : List Range} {p : Int} (h : cov l (p + 1) < cov l p) : ∃ r ∈ l, r.Hi = p := by
  induction l with
  | nil => simp [cov] at h
  | cons r l ih =>
    simp only [cov] at h
    by_cases hr : r.Hi = p
    · exact ⟨r, List.mem_cons_self .., hr⟩
    · have : cov l (p + 1) < cov l p := by
        split at h <;> split at h <;> omega
      obtain ⟨s, hs, h2⟩ := ih this
      exact ⟨s, List.mem_cons_of_mem _ hs, h2⟩
/-- The least number from a on of which p holds, if any does up to n more. -/
theorem exists_least {p : Int → Prop} (a : Int) : ∀ (n : Nat), (∃ q, a ≤ q ∧ q < a + n ∧ p q) → ∃ q, a ≤ q ∧ q < a + n ∧ p q ∧ ∀ r, a ≤ r → r < q → ¬ p r
  | 0, ⟨q, h1, h2, _⟩ => by omega
  | n + 1, ⟨q, h1, h2, h3⟩ => by
    by_cases h : ∃ q, a ≤ q ∧ q < a + n ∧ p q
    · obtain ⟨q', k1, k2, k3, k4⟩ := exists_least a n h
      exact ⟨q', k1, by omega, k3, k4⟩
    · refine ⟨q, h1, h2, h3, fun r hr1 hr2 hr3 => h ⟨r, hr1, by omega, hr3⟩⟩
/-- What stands between two rounds of the search. -/
structure Fnd (l : List Range) (wrong : Int) (out : List Range) : Prop where
  runs : IsRuns (fun p => Fu l wrong p ∧ p ≤ told out) out
  next : ¬ Fu l wrong (told out + 1) ∨ out = []
  b1 : -1 ≤ told out
  b2 : told out ≤ 1000000000
  len : (out.length : Int) ≤ told out + 1
theorem told_snoc (out : List Range) (r : Range) : told (out ++ [r]) = r.Hi := by unfold told; simp
end Go.Gw
