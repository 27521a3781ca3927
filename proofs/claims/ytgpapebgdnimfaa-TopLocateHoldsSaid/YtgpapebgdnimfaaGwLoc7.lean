/- Ranges fused: what both texts compute is the list of the longest runs. Condition: the ranges are right. -/
import Derived.Test.YtgpapebgdnimfaaGwLoc6
set_option maxRecDepth 4096
namespace Go.Gw
open Go

/-- In how many ranges a place lies. -/
def cov : List Range → Int → Int
  | [], _ => 0
  | r :: l, p => (if r.Lo ≤ p ∧ p ≤ r.Hi then 1 else 0) + cov l p
theorem cov_bound : ∀ (l : List Range) (p : Int), 0 ≤ cov l p ∧ cov l p ≤ l.length
  | [], p => by simp [cov]
  | r :: l, p => by
    have := cov_bound l p
    simp only [cov, List.length_cons]
    split <;> omega
/-- The runs of the places of which F holds. -/
structure IsRuns (F : Int → Prop) (out : List Range) : Prop where
  sep : out.Pairwise fun a b => a.Hi + 1 < b.Lo
  le : ∀ r ∈ out, r.Lo ≤ r.Hi
  all : ∀ p, F p ↔ ∃ r ∈ out, r.Lo ≤ p ∧ p ≤ r.Hi
theorem IsRuns.unique : ∀ {a b : List Range} {F : Int → Prop}, IsRuns F a → IsRuns F b → a = b
  | [], [], _, _, _ => rfl
  | [], r :: b, F, ha, hb => by
    have h1 := (hb.all r.Lo).2 ⟨r, List.mem_cons_self .., Int.le_refl _, hb.le r (List.mem_cons_self ..)⟩
    obtain ⟨_, h, _⟩ := (ha.all r.Lo).1 h1
    cases h
  | r :: a, [], F, ha, hb => by
    have h1 := (ha.all r.Lo).2 ⟨r, List.mem_cons_self .., Int.le_refl _, ha.le r (List.mem_cons_self ..)⟩
    obtain ⟨_, h, _⟩ := (hb.all r.Lo).1 h1
    cases h
  | r :: a, s :: b, F, ha, hb => by
    have key : ∀ {r s : Range} {a b : List Range}, IsRuns F (r :: a) → IsRuns F (s :: b) → s.Lo ≤ r.Lo ∧ (s.Lo = r.Lo → r.Hi ≤ s.Hi) := by
      intro r s a b ha hb
      have hr := ha.le r (List.mem_cons_self ..)
      constructor
      · obtain ⟨u, hu, h1, h2⟩ := (hb.all r.Lo).1 ((ha.all r.Lo).2 ⟨r, List.mem_cons_self .., Int.le_refl _, hr⟩)
        rcases List.mem_cons.1 hu with rfl | hu
        · exact h1
        · have := (List.pairwise_cons.1 hb.sep).1 u hu
          have := hb.le s (List.mem_cons_self ..)
          omega
      · intro he
        rcases Int.lt_or_le s.Hi r.Hi with hlt | hle
        · exfalso
          have hs := hb.le s (List.mem_cons_self ..)
          obtain ⟨u, hu, h1, h2⟩ := (hb.all (s.Hi + 1)).1 ((ha.all (s.Hi + 1)).2 ⟨r, List.mem_cons_self .., by omega, by omega⟩)
          rcases List.mem_cons.1 hu with rfl | hu
          · omega
          · have := (List.pairwise_cons.1 hb.sep).1 u hu
            omega
        · exact hle
    have k1 := key ha hb
    have k2 := key hb ha
    have e1 : r.Lo = s.Lo := by omega
    have e2 : r.Hi = s.Hi := by have := k1.2 e1.symm; have := k2.2 e1; omega
    have ers : r = s := by cases r; cases s; simp at e1 e2; simp [e1, e2]
    subst ers
    have tail : ∀ {a : List Range}, IsRuns F (r :: a) → IsRuns (fun p => F p ∧ r.Hi < p) a := by
      intro a ha
      refine ⟨(List.pairwise_cons.1 ha.sep).2, fun u hu => ha.le u (List.mem_cons_of_mem _ hu), fun p => ⟨fun ⟨h1, h2⟩ => ?_, fun ⟨u, hu, h1, h2⟩ => ⟨(ha.all p).2 ⟨u, List.mem_cons_of_mem _ hu, h1, h2⟩, ?_⟩⟩⟩
      · obtain ⟨u, hu, h3, h4⟩ := (ha.all p).1 h1
        rcases List.mem_cons.1 hu with rfl | hu
        · omega
        · exact ⟨u, hu, h3, h4⟩
      · have := (List.pairwise_cons.1 ha.sep).1 u hu
        omega
    rw [IsRuns.unique (tail ha) (tail hb)]
theorem IsRuns.congr {F G : Int → Prop} {out : List Range} (h : IsRuns F out) (he : ∀ p, F p ↔ G p) : IsRuns G out := ⟨h.sep, h.le, fun p => (he p).symm.trans (h.all p)⟩

/-! ### Errors -/
def rgE (r : Range) : Int := if ¬ ((0 ≤ r.Lo ∧ r.Lo ≤ 1000000000) ∧ (0 ≤ r.Hi ∧ r.Hi ≤ 1000000000)) then 2 else if r.Hi < r.Lo then 9 else 0
theorem placesErr_ok (r : Range) : locate_placesErr_spec r = some (rgE r) := by
  unfold locate_placesErr_spec locate_isPlace_spec
  simp only [within_ok, unless_ok, Option.bind_some]
  unfold rgE
  by_cases h1 : 0 ≤ r.Lo ∧ r.Lo ≤ 1000000000
  · simp only [h1.1, h1.2, decide_true, Bool.and_self, cond_true, Option.bind_some, Bool.true_and, true_and]
    rw [first_ok _ (by simp)]
    simp only [Option.bind_some]
    by_cases h2 : 0 ≤ r.Hi ∧ r.Hi ≤ 1000000000
    · by_cases h3 : r.Hi < r.Lo
      · have h3' : ¬ r.Lo ≤ r.Hi := by omega
        simp [frst, h2, h3, h3']
      · have h3' : r.Lo ≤ r.Hi := by omega
        simp [frst, h2, h3, h3']
    · have h2' : (decide (0 ≤ r.Hi) && decide (r.Hi ≤ 1000000000)) = false := by rw [Bool.eq_false_iff]; simp only [ne_eq, Bool.and_eq_true, decide_eq_true_eq]; exact h2
      simp [frst, h2, h2']
  · have h1' : (decide (0 ≤ r.Lo) && decide (r.Lo ≤ 1000000000)) = false := by rw [Bool.eq_false_iff]; simp only [ne_eq, Bool.and_eq_true, decide_eq_true_eq]; exact h1
    simp only [h1', cond_false, Option.bind_some, Bool.false_and]
    rw [first_ok _ (by simp)]
    simp [frst, h1]
theorem RangeErr_ok (r : Range) : ref04_RangeErr_spec r = some (rgE r) := by
  unfold ref04_RangeErr_spec
  simp only [bwithin_ok, Option.bind_some]
  unfold rgE
  by_cases h1 : 0 ≤ r.Lo ∧ r.Lo ≤ 1000000000
  · simp only [h1.1, h1.2, decide_true, Bool.and_self, Bool.not_true, Bool.not_false, cond_true, Option.bind_some, Bool.false_or, true_and]
    by_cases h2 : 0 ≤ r.Hi ∧ r.Hi ≤ 1000000000
    · by_cases h3 : r.Hi < r.Lo
      · simp [h2, h3]
      · simp [h2, h3]
    · have h2' : (decide (0 ≤ r.Hi) && decide (r.Hi ≤ 1000000000)) = false := by rw [Bool.eq_false_iff]; simp only [ne_eq, Bool.and_eq_true, decide_eq_true_eq]; exact h2
      simp [h2, h2']
  · have h1' : (decide (0 ≤ r.Lo) && decide (r.Lo ≤ 1000000000)) = false := by rw [Bool.eq_false_iff]; simp only [ne_eq, Bool.and_eq_true, decide_eq_true_eq]; exact h1
    simp [h1, h1']
/-- The first error of ranges. -/
def rgsE : List Range → Int
  | [] => 0
  | r :: l => if rgE r ≠ 0 then rgE r else rgsE l
def fuE (l : List Range) (wrong : Int) : Int := if l.length = 0 then 10 else if 12 < (l.length : Int) then 8 else if rgsE l ≠ 0 then rgsE l else if ¬ (0 ≤ wrong ∧ wrong ≤ l.length - 1) then 2 else 0
def Okg (r : Range) : Prop := 0 ≤ r.Lo ∧ r.Lo ≤ r.Hi ∧ r.Hi ≤ 1000000000
theorem rgE_0 {r : Range} : rgE r = 0 ↔ Okg r := by
  unfold rgE Okg
  by_cases h1 : (0 ≤ r.Lo ∧ r.Lo ≤ 1000000000) ∧ (0 ≤ r.Hi ∧ r.Hi ≤ 1000000000)
  · rw [if_neg (fun h => h h1)]
    by_cases h2 : r.Hi < r.Lo
    · rw [if_pos h2]; exact ⟨fun h => (by cases h), fun h => by omega⟩
    · rw [if_neg h2]; exact ⟨fun _ => by omega, fun _ => rfl⟩
  · rw [if_pos h1]; exact ⟨fun h => (by cases h), fun h => by omega⟩
theorem rgsE_0 : ∀ {l : List Range}, rgsE l = 0 ↔ ∀ r ∈ l, Okg r
  | [] => by simp [rgsE]
  | r :: l => by
    by_cases h : rgE r = 0
    · have := rgE_0.1 h
      simp only [rgsE, h, ne_eq, not_true_eq_false, if_false, rgsE_0 (l := l), List.mem_cons, forall_eq_or_imp, this, true_and]
    · have h' : ¬ Okg r := fun hk => h (rgE_0.2 hk)
      simp [rgsE, h, h']
end Go.Gw
