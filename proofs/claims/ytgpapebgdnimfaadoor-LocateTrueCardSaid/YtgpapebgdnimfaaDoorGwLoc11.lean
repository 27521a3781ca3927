/- Ranges fused, by the search from beginning to beginning; ranges moved, and followed: what both texts compute. Condition: what comes in is right, or an error is told. -/
import Derived.Test.YtgpapebgdnimfaaDoorGwLoc10
import Derived.Test.YtgpapebgdnimfaaDoorGwFxFol
set_option maxRecDepth 4096
namespace Go.Gw
open Go

/-! ### The search -/
/-- The least one of the numbers v(r) of those ranges that p holds of. -/
def leastB (p : Range → Bool) (v : Range → Int) : Int × Bool → List Range → Int × Bool
  | a, [] => a
  | a, r :: l => leastB p v (if p r && (!a.2 || decide (v r < a.1)) then (v r, true) else a) l
theorem leastB_spec (p : Range → Bool) (v : Range → Int) : ∀ (l : List Range) (a : Int × Bool),
    ((leastB p v a l).2 = false → a.2 = false ∧ ∀ r ∈ l, p r = false) ∧
    ((leastB p v a l).2 = true → ((∃ r ∈ l, p r = true ∧ v r = (leastB p v a l).1) ∨ (a.2 = true ∧ a.1 = (leastB p v a l).1)) ∧ (∀ r ∈ l, p r = true → (leastB p v a l).1 ≤ v r) ∧ (a.2 = true → (leastB p v a l).1 ≤ a.1))
  | [], a => ⟨fun h => ⟨h, fun r hr => by cases hr⟩, fun h => ⟨.inr ⟨h, rfl⟩, (fun r hr => by cases hr), fun _ => Int.le_refl _⟩⟩
  | r :: l, a => by
    have ih := leastB_spec p v l (if p r && (!a.2 || decide (v r < a.1)) then (v r, true) else a)
    simp only [leastB]
    by_cases hc : (p r && (!a.2 || decide (v r < a.1))) = true
    · rw [if_pos hc] at ih ⊢
      have hp : p r = true := by simp only [Bool.and_eq_true] at hc; exact hc.1
      refine ⟨fun h => absurd (ih.1 h).1 (by simp), fun h => ?_⟩
      obtain ⟨h1, h2, h3⟩ := ih.2 h
      have h3 := h3 rfl
      simp only at h1 h3
      refine ⟨?_, ?_, fun ha => ?_⟩
      · rcases h1 with ⟨r', hr', hh⟩ | ⟨_, hh⟩
        · exact .inl ⟨r', List.mem_cons_of_mem _ hr', hh⟩
        · exact .inl ⟨r, List.mem_cons_self .., hp, hh⟩
      · intro r' hr' hp'
        rcases List.mem_cons.1 hr' with rfl | hr'
        · exact h3
        · exact h2 r' hr' hp'
      · simp only [Bool.and_eq_true, Bool.or_eq_true, Bool.not_eq_true', decide_eq_true_eq] at hc
        rcases hc.2 with hc2 | hc2
        · rw [ha] at hc2; cases hc2
        · omega
    · rw [if_neg hc] at ih ⊢
      refine ⟨fun h => ?_, fun h => ?_⟩
      · obtain ⟨h1, h2⟩ := ih.1 h
        refine ⟨h1, fun r' hr' => ?_⟩
        rcases List.mem_cons.1 hr' with rfl | hr'
        · cases hp : p r' with
          | false => rfl
          | true => exact absurd (by simp [hp, h1]) hc
        · exact h2 r' hr'
      · obtain ⟨h1, h2, h3⟩ := ih.2 h
        refine ⟨?_, ?_, h3⟩
        · rcases h1 with ⟨r', hr', hh⟩ | hh
          · exact .inl ⟨r', List.mem_cons_of_mem _ hr', hh⟩
          · exact .inr hh
        · intro r' hr' hp'
          rcases List.mem_cons.1 hr' with rfl | hr'
          · simp only [hp', Bool.true_and, Bool.or_eq_true, Bool.not_eq_true', decide_eq_true_eq, not_or] at hc
            have ha : a.2 = true := by
              cases h : a.2 with
              | true => rfl
              | false => exact absurd h hc.1
            have := h3 ha
            omega
          · exact h2 r' hr' hp'
/-- Up to where is all told? -/
def told (out : List Range) : Int := match out.getLast? with | none => -1 | some r => r.Hi
def pB (l : List Range) (wrong : Int) (out : List Range) (r : Range) : Bool := decide ((l.length : Int) - wrong ≤ cov l r.Lo) && (decide (out.length = 0) || decide (told out < r.Lo))
def pE (l : List Range) (wrong lo : Int) (r : Range) : Bool := decide (lo ≤ r.Hi) && decide ((l.length : Int) - wrong ≤ cov l r.Hi) && !decide ((l.length : Int) - wrong ≤ cov l (r.Hi + 1))
theorem leastB_fld (p : Range → Bool) (v : Range → Int) : ∀ (l : List Range) (k : Nat) (a : Int × Bool), fld (fun _ (a : Int × Bool) r => if p r && (!a.2 || decide (v r < a.1)) then (v r, true) else a) k a l = leastB p v a l
  | [], _, _ => rfl
  | r :: l, k, a => by simp only [fld, leastB]; exact leastB_fld p v l _ _
theorem rF0_ok {l : List Range} {wrong : Int} (hl : l.length ≤ 12) (hw : 0 ≤ wrong ∧ wrong ≤ (l.length : Int) - 1) (out : List Range) (ho : out.length ≤ 1073741823) : loop (ref04_Fused_s0 l wrong out) (0, false, 0) = some (leastB (pB l wrong out) (·.Lo) (0, false) l) := by
  have h := loop_fld (step := ref04_Fused_s0 l wrong out) l (fun _ (a : Int × Bool) r => if pB l wrong out r && (!a.2 || decide (r.Lo < a.1)) then (r.Lo, true) else a) (fun a k => (a.1, a.2, (k : Int))) (fun a => (a.1, a.2)) (fun _ _ => True) (0, false) trivial ?_ ?_
  · rw [leastB_fld (pB l wrong out) (·.Lo)] at h
    exact h.1
  · intro k hk a _
    refine ⟨?_, trivial⟩
    show ref04_Fused_s0 l wrong out (a.1, a.2, (k : Int)) = _
    unfold ref04_Fused_s0
    simp only
    rw [lt_nat hk, idx_nat hk, w64n k (by omega)]
    simp only [Option.bind_some, cond_true, IsFused_ok l wrong _ hl hw]
    unfold pB
    cases hf : decide ((l.length : Int) - wrong ≤ cov l l[k].Lo) with
    | false => simp
    | true =>
      simp only [Bool.true_and]
      by_cases h0 : out.length = 0
      · have h0' : decide ((out.length : Int) = 0) = true := by simp [h0]
        simp only [h0, h0', Bool.not_true, cond_false, Option.bind_some, decide_true, Bool.true_or, Bool.true_and]
        cases (!a.2 || decide (l[k].Lo < a.1)) <;> rfl
      · have h0' : decide ((out.length : Int) = 0) = false := by rw [decide_eq_false_iff_not]; omega
        have h0'' : decide (out.length = 0) = false := by simpa using h0
        have hlast : idx out (w64 ((out.length : Int) - 1)) = some (out[out.length - 1]'(by omega)) := by
          rw [w64_id (by omega), show (out.length : Int) - 1 = ((out.length - 1 : Nat) : Int) by omega, idx_nat (by omega)]
        have ht : told out = (out[out.length - 1]'(by omega)).Hi := by
          unfold told
          rw [List.getLast?_eq_getElem?, List.getElem?_eq_getElem (by omega)]
        rw [h0', h0'', hlast, ht]
        simp only [Bool.not_false, cond_true, Option.bind_some, Bool.false_or]
        cases (decide ((out[out.length - 1]'(by omega)).Hi < l[k].Lo) && (!a.2 || decide (l[k].Lo < a.1))) <;> rfl
  · intro a _
    show ref04_Fused_s0 l wrong out (a.1, a.2, (l.length : Int)) = _
    unfold ref04_Fused_s0
    simp only
    rw [lt_nat_no]; rfl
theorem rF1_ok {l : List Range} {wrong : Int} (hl : l.length ≤ 12) (hw : 0 ≤ wrong ∧ wrong ≤ (l.length : Int) - 1) (hg : ∀ r ∈ l, Okg r) (lo : Int) : loop (ref04_Fused_s1 l wrong lo) (0, false, 0) = some (leastB (pE l wrong lo) (·.Hi) (0, false) l).1 := by
  have h := loop_fld (step := ref04_Fused_s1 l wrong lo) l (fun _ (a : Int × Bool) r => if pE l wrong lo r && (!a.2 || decide (r.Hi < a.1)) then (r.Hi, true) else a) (fun a k => (a.1, a.2, (k : Int))) (fun a => a.1) (fun _ _ => True) (0, false) trivial ?_ ?_
  · rw [leastB_fld (pE l wrong lo) (·.Hi)] at h
    exact h.1
  · intro k hk a _
    refine ⟨?_, trivial⟩
    have hgk := hg _ (List.getElem_mem hk)
    obtain ⟨g1, g2, g3⟩ := hgk
    show ref04_Fused_s1 l wrong lo (a.1, a.2, (k : Int)) = _
    unfold ref04_Fused_s1
    simp only
    rw [lt_nat hk, idx_nat hk, w64n k (by omega)]
    simp only [Option.bind_some, cond_true, IsFused_ok l wrong _ hl hw]
    rw [w64_id (by omega)]
    unfold pE
    cases decide (lo ≤ l[k].Hi) with
    | false => simp
    | true =>
      simp only [cond_true, Option.bind_some, Bool.true_and]
      cases decide ((l.length : Int) - wrong ≤ cov l l[k].Hi) with
      | false => simp
      | true =>
        simp only [cond_true, Option.bind_some, Bool.true_and]
        cases (!decide ((l.length : Int) - wrong ≤ cov l (l[k].Hi + 1)) && (!a.2 || decide (l[k].Hi < a.1))) <;> rfl
  · intro a _
    show ref04_Fused_s1 l wrong lo (a.1, a.2, (l.length : Int)) = _
    unfold ref04_Fused_s1
    simp only
    rw [lt_nat_no]; rfl
theorem cov_up {l : List Range} {p : Int} (h : cov l p < cov l (p + 1)) : ∃ r ∈ l, r.Lo = p + 1 := by
  induction l with
  | nil => simp [cov] at h
  | cons r l ih =>
    simp only [cov] at h
    by_cases hr : r.Lo = p + 1
    · exact ⟨r, List.mem_cons_self .., hr⟩
    · have : cov l p < cov l (p + 1) := by
        split at h <;> split at h <;> omega
      obtain ⟨s, hs, h2⟩ := ih this
      exact ⟨s, List.mem_cons_of_mem _ hs, h2⟩
theorem cov_down {l : List Range} {p : Int} (h : cov l (p + 1) < cov l p) : ∃ r ∈ l, r.Hi = p := by
  induction l with
  | nil => simp [cov] at h
  | cons r l ih =>
    simp only [cov] at h
    by_cases hr : r.Hi = p
    · exact ⟨r, List.mem_cons_self .., hr⟩
    · have : cov l (p + 1) < cov l p := by
        split at h <;> split at h <;> omega
      obtain ⟨s, hs, h2⟩ := ih this
      exact ⟨s, List.mem_cons_of_mem _ hs, h2⟩
/-- The least number from a on of which p holds, if any does up to n more. -/
theorem exists_least {p : Int → Prop} (a : Int) : ∀ (n : Nat), (∃ q, a ≤ q ∧ q < a + n ∧ p q) → ∃ q, a ≤ q ∧ q < a + n ∧ p q ∧ ∀ r, a ≤ r → r < q → ¬ p r
  | 0, ⟨q, h1, h2, _⟩ => by omega
  | n + 1, ⟨q, h1, h2, h3⟩ => by
    by_cases h : ∃ q, a ≤ q ∧ q < a + n ∧ p q
    · obtain ⟨q', k1, k2, k3, k4⟩ := exists_least a n h
      exact ⟨q', k1, by omega, k3, k4⟩
    · refine ⟨q, h1, h2, h3, fun r hr1 hr2 hr3 => h ⟨r, hr1, by omega, hr3⟩⟩
/-- What stands between two rounds of the search. -/
structure Fnd (l : List Range) (wrong : Int) (out : List Range) : Prop where
  runs : IsRuns (fun p => Fu l wrong p ∧ p ≤ told out) out
  next : ¬ Fu l wrong (told out + 1) ∨ out = []
  b1 : -1 ≤ told out
  b2 : told out ≤ 1000000000
  len : (out.length : Int) ≤ told out + 1
theorem told_snoc (out : List Range) (r : Range) : told (out ++ [r]) = r.Hi := by unfold told; simp
theorem rF2_ok {l : List Range} {wrong : Int} (hl : l.length ≤ 12) (hw : 0 ≤ wrong ∧ wrong ≤ (l.length : Int) - 1) (hg : ∀ r ∈ l, Okg r) {out : List Range} (h : Fnd l wrong out) :
    (ref04_Fused_s2 l wrong out = some (.inr (.inl out)) ∧ IsRuns (Fu l wrong) out) ∨ ∃ r, ref04_Fused_s2 l wrong out = some (.inl (out ++ [r])) ∧ Fnd l wrong (out ++ [r]) ∧ told out < r.Hi := by
  have hb1 := h.b1; have hb2 := h.b2; have hlen := h.len
  have hfar : ∀ p, p < 0 ∨ 1000000000 < p → ¬ Fu l wrong p := fun p hp => by unfold Fu; rw [cov_far hg hp]; omega
  have h0 := rF0_ok hl hw out (by omega)
  have hs := leastB_spec (pB l wrong out) (·.Lo) l (0, false)
  generalize leastB (pB l wrong out) (·.Lo) (0, false) l = x at h0 hs
  have hpB : ∀ r, pB l wrong out r = true ↔ Fu l wrong r.Lo ∧ (out = [] ∨ told out < r.Lo) := by
    intro r
    unfold pB Fu
    simp only [Bool.and_eq_true, Bool.or_eq_true, decide_eq_true_eq, List.length_eq_zero_iff]
  have hnil : out = [] → told out = -1 := fun h => by subst h; rfl
  -- the beginning of the next run
  have start : ∀ p, told out < p → Fu l wrong p → ∃ r ∈ l, pB l wrong out r = true ∧ r.Lo ≤ p ∧ ∀ q, told out < q → q < r.Lo → ¬ Fu l wrong q := by
    intro p hp1 hp2
    obtain ⟨q, k1, k2, k3, k4⟩ := exists_least (p := fun q => Fu l wrong q) (told out + 1) (p - told out).toNat ⟨p, by omega, by omega, hp2⟩
    have hprev : ¬ Fu l wrong (q - 1) := by
      rcases Int.lt_or_le (told out) (q - 1) with hq | hq
      · exact k4 _ (by omega) (by omega)
      · have hq1 : q = told out + 1 := by omega
        rcases h.next with hn | hn
        · exact absurd (hq1 ▸ k3) hn
        · have := hnil hn
          exact hfar _ (by omega)
    obtain ⟨r, hr, hr2⟩ := cov_up (l := l) (p := q - 1) (by
      unfold Fu at hprev k3
      rw [show q - 1 + 1 = q by omega]; omega)
    refine ⟨r, hr, (hpB r).2 ?_, by omega, fun q' h1 h2 => k4 q' (by omega) (by omega)⟩
    rw [show r.Lo = q by omega]
    exact ⟨k3, .inr (by omega)⟩
  unfold ref04_Fused_s2
  rw [h0]
  simp only [Option.bind_some]
  cases hx : x.2 with
  | false =>
    left
    refine ⟨by simp, h.runs.congr fun p => ⟨fun hp => hp.1, fun hp => ⟨hp, ?_⟩⟩⟩
    rcases Int.lt_or_le (told out) p with hp2 | hp2
    · obtain ⟨r, hr, hr2, _⟩ := start p hp2 hp
      have := (hs.1 hx).2 r hr
      rw [hr2] at this; cases this
    · exact hp2
  | true =>
    right
    obtain ⟨hm, hmin, _⟩ := hs.2 hx
    obtain ⟨r0, hr0, hp0, hv0⟩ : ∃ r ∈ l, pB l wrong out r = true ∧ r.Lo = x.1 := by
      rcases hm with ⟨r, hr, h1, h2⟩ | ⟨h1, _⟩
      · exact ⟨r, hr, h1, h2⟩
      · cases h1
    obtain ⟨hF, ho⟩ := (hpB r0).1 hp0
    rw [hv0] at hF ho
    have hlo0 := hg r0 hr0
    obtain ⟨a1, a2, a3⟩ := hlo0
    have htold : told out < x.1 := by
      rcases ho with ho | ho
      · have := hnil ho; omega
      · exact ho
    have before : ∀ q, told out < q → q < x.1 → ¬ Fu l wrong q := by
      intro q hq1 hq2 hq3
      obtain ⟨r, hr, hr2, hr3, _⟩ := start q hq1 hq3
      have := hmin r hr hr2
      omega
    have h1 := rF1_ok hl hw hg x.1
    have hs2 := leastB_spec (pE l wrong x.1) (·.Hi) l (0, false)
    generalize leastB (pE l wrong x.1) (·.Hi) (0, false) l = y at h1 hs2
    have hpE : ∀ r ∈ l, (pE l wrong x.1 r = true ↔ x.1 ≤ r.Hi ∧ Fu l wrong r.Hi ∧ ¬ Fu l wrong (r.Hi + 1)) := by
      intro r _
      unfold pE Fu
      simp only [Bool.and_eq_true, Bool.not_eq_true', decide_eq_true_eq, decide_eq_false_iff_not]
      constructor
      · rintro ⟨⟨u, v⟩, w⟩; exact ⟨u, v, w⟩
      · rintro ⟨u, v, w⟩; exact ⟨⟨u, v⟩, w⟩
    -- the end of the run
    obtain ⟨e, e1, e2, e3, e4⟩ := exists_least (p := fun q => ¬ Fu l wrong (q + 1)) x.1 (1000000002 - x.1).toNat ⟨1000000000, by omega, by omega, hfar _ (by omega)⟩
    have inside : ∀ q, x.1 ≤ q → q ≤ e → Fu l wrong q := by
      intro q hq1 hq2
      rcases Int.lt_or_le x.1 q with hq | hq
      · have := e4 (q - 1) (by omega) (by omega)
        rw [show q - 1 + 1 = q by omega] at this
        exact Classical.not_not.1 this
      · rw [show q = x.1 by omega]; exact hF
    have hFe := inside e e1 (Int.le_refl _)
    obtain ⟨re, hre, hre2⟩ := cov_down (l := l) (p := e) (by
      have := e3
      unfold Fu at this hFe
      omega)
    have hpe : pE l wrong x.1 re = true := (hpE re hre).2 (by rw [hre2]; exact ⟨e1, hFe, e3⟩)
    have hy : y.2 = true := by
      cases hy : y.2 with
      | true => rfl
      | false => have := (hs2.1 hy).2 re hre; rw [hpe] at this; cases this
    obtain ⟨hm2, hmin2, _⟩ := hs2.2 hy
    obtain ⟨r1, hr1, hp1, hv1⟩ : ∃ r ∈ l, pE l wrong x.1 r = true ∧ r.Hi = y.1 := by
      rcases hm2 with ⟨r, hr, h1, h2⟩ | ⟨h1, _⟩
      · exact ⟨r, hr, h1, h2⟩
      · cases h1
    have hye : y.1 = e := by
      have k1 := hmin2 re hre hpe
      obtain ⟨k2, k3, k4⟩ := (hpE r1 hr1).1 hp1
      rw [hv1] at k2 k4
      rcases Int.lt_or_le y.1 e with k5 | k5
      · exact absurd k4 (e4 y.1 k2 k5)
      · omega
    have hecap : e ≤ 1000000000 := by
      obtain ⟨_, _, b3⟩ := hg re hre
      omega
    refine ⟨⟨x.1, e⟩, ?_, ⟨?_, ?_, ?_, ?_, ?_⟩, by simp only; omega⟩
    · simp only [Bool.not_true, cond_false]
      rw [h1, hye]
      simp only [Option.bind_some]
      rw [app_ok (by simp; omega)]
      rfl
    · rw [told_snoc]
      refine h.runs.snoc e1 ?_ fun p => ?_
      · intro r hr
        have h3 := (h.runs.all r.Hi).2 ⟨r, hr, h.runs.le r hr, Int.le_refl _⟩
        rcases Int.lt_or_le (r.Hi + 1) x.1 with h4 | h4
        · exact h4
        · exfalso
          have h5 : told out + 1 = x.1 := by omega
          rcases h.next with hn | hn
          · rw [h5] at hn; exact hn hF
          · subst hn; cases hr
      · simp only
        constructor
        · rintro ⟨hp1, hp2⟩
          rcases Int.lt_or_le p x.1 with hpx | hpx
          · left
            refine ⟨hp1, ?_⟩
            rcases Int.lt_or_le (told out) p with hpt | hpt
            · exact absurd hp1 (before p hpt hpx)
            · exact hpt
          · exact .inr ⟨hpx, hp2⟩
        · rintro (⟨hp1, hp2⟩ | ⟨hp1, hp2⟩)
          · exact ⟨hp1, by omega⟩
          · exact ⟨inside p hp1 hp2, hp2⟩
    · rw [told_snoc]; exact .inl e3
    · rw [told_snoc]; simp only; omega
    · rw [told_snoc]; exact hecap
    · rw [told_snoc]; simp; omega
theorem rFused_ok {l : List Range} {wrong : Int} (hl : l.length ≤ 12) (hw : 0 ≤ wrong ∧ wrong ≤ (l.length : Int) - 1) (hg : ∀ r ∈ l, Okg r) : ∃ out, ref04_Fused_spec l wrong = some out ∧ IsRuns (Fu l wrong) out ∧ out.length ≤ 1000000001 := by
  unfold ref04_Fused_spec
  have hR := Runs.loop (step := ref04_Fused_s2 l wrong) (s := ([] : List Range)) (Q := fun o : List Range ⊕ Unit => ∃ out, o = .inl out ∧ IsRuns (Fu l wrong) out ∧ out.length ≤ 1000000001) (Fnd l wrong) (fun out => (1000000001 - told out).toNat)
    ⟨⟨List.Pairwise.nil, (fun r hr => by cases hr), fun p => ⟨fun ⟨h1, h2⟩ => by
        have h2 : p ≤ -1 := h2
        unfold Fu at h1; rw [cov_far hg (by omega)] at h1; omega, fun ⟨r, hr, _⟩ => by cases hr⟩⟩, .inr rfl, by decide, by decide, by decide⟩ ?_
  · obtain ⟨o, ho, out, rfl, hr, hlen⟩ := hR
    exact ⟨out, by rw [ho]; rfl, hr, hlen⟩
  · intro out h
    have hb2 := h.b2; have hlen := h.len
    rcases rF2_ok hl hw hg h with ⟨h1, h2⟩ | ⟨r, h1, h2, h3⟩
    · exact ⟨_, h1, out, rfl, h2, by omega⟩
    · refine ⟨_, h1, h2, ?_⟩
      have := h2.b2
      show (1000000001 - told (out ++ [r])).toNat < (1000000001 - told out).toNat
      rw [told_snoc] at this ⊢
      omega
end Go.Gw
