/- LevitateProofs answers true. Condition: none. -/
import Derived.Test.YtglaeocolbnpdaaGreatGwLev22
import Derived.Test.YtglaeocolbnpdaaGreatGwLawLevitateProofs
set_option maxRecDepth 8192
set_option linter.unusedSimpArgs false
set_option linter.unusedVariables false
namespace Go.Gw
open Go

theorem Qwg {p : LevitatePlant} {x : LevitateProof} (h : (Zj p x).2 ≠ 0) : (Zj p x).1 = [] := by
  revert h
  unfold Zj JC
  split
  · split
    · split
      · split
        · intro h; exact absurd rfl h
        · intro _; rfl
      · intro _; rfl
    · intro _; rfl
  · intro _; rfl
theorem Qun (p : LevitatePlant) (x : LevitateProof) : Qky p x = some true := by
  refine Runs.eq ?_
  unfold Qky
  refine Runs.call Qvi ?_
  refine Runs.bif_f rfl ?_
  refine Runs.callR (Qul p) fun b1 hb1 => ?_
  cases b1 with
  | false => simp only [Bool.not_false, Bool.true_or, Bool.or_true, Bool.not_true, cond_false, cond_true, Qq]; exact Runs.some rfl
  | true =>
  have hsh := QFf (hb1 rfl)
  simp only [Bool.not_true, Bool.not_false, cond_true, Bool.false_or]
  refine Runs.callR (QFg x.Form) fun b2 hb2 => ?_
  cases b2 with
  | false => exact Runs.some rfl
  | true =>
  obtain ⟨hf5, hfr⟩ := hb2 rfl
  refine Runs.bif_f rfl ?_
  have hcl : ∀ r ∈ x.Form, r.length ≤ 1073741824 := fun r hr => by have := hfr r hr; omega
  refine Runs.call (Quk p hsh) ?_
  refine Runs.call (Qos x.Form (by omega) hcl) ?_
  refine Runs.call (Qui (x := ⟨x.Form, x.Rate, x.Level⟩) hsh (by show x.Form.length < _; omega)) ?_
  refine Runs.call (QDi hsh (by omega) x.Rate) ?_
  change Runs _ _
  have hcx : Zj p ⟨x.Form, x.Rate, x.Level⟩ = Zj p x := rfl
  rw [hcx]
  by_cases h0 : JR p x.Form x.Rate = 0
  · have h1 : Zn p x.Form = 0 := by
      rcases Classical.em (Zn p x.Form = 0) with h | h
      · exact h
      · rw [← Qnf] at h0; unfold Jo at h0; rw [if_neg h] at h0; exact absurd h0 h
    obtain ⟨hp, hf, hn⟩ := Qmy h1
    have hpv : (ZH p x.Form x.Rate).2 = 0 := by rw [← Qnf] at h0; unfold Jo at h0; rw [if_pos h1] at h0; exact h0
    obtain ⟨hr, hpos, hles⟩ := pvV_zero.1 hpv
    have hbd : Bd p.Noise.length x.Form 10000 := by rw [← hn]; exact hf.bd
    rw [h0]
    simp only [decide_true, cond_true, Bool.true_and]
    refine Runs.call (Qbh x.Level 0 100000000000000) ?_
    have hcp : Zj p x = JC p x := by unfold Zj; rw [if_pos h1]
    by_cases hlv : 0 ≤ x.Level ∧ x.Level ≤ 100000000000000
    · rw [decide_eq_true hlv.1, decide_eq_true hlv.2]
      refine Runs.call (b := 0) rfl ?_
      simp only [decide_true, cond_true, Bool.true_and]
      refine Runs.call (QDt hp (by rw [← hn]; exact hf.sq) hbd) ?_
      refine Runs.call (QDo hr hlv (Qts hp hbd)) ?_
      cases hk : YT x.Level (Y5 p x.Form) x.Rate with
      | false =>
        have hcv : Zj p x = ([], 20) := by rw [hcp]; unfold JC; rw [if_pos hpv, if_pos hlv, hk]; rfl
        rw [hcv]
        exact Runs.call rfl (Runs.bif_t rfl (Runs.some rfl))
      | true =>
        have hcv : Zj p x = (Qdh x.Form x.Level, 0) := by rw [hcp]; unfold JC; rw [if_pos hpv, if_pos hlv, hk]; rfl
        rw [hcv]
        refine Runs.call (b := 0) rfl ?_
        refine Runs.bif_f rfl ?_
        simp only [decide_true, cond_true, Bool.true_and]
        refine Runs.call (QDj hf hpos hlv) ?_
        have hbl := Qvs x.Form x.Level
        refine Runs.call (Qjl _ _ (by omega)) ?_
        exact Runs.some (by simp)
    · have hcv : Zj p x = ([], 2) := by rw [hcp]; unfold JC; rw [if_pos hpv, if_neg hlv]
      have hb : (decide (0 ≤ x.Level) && decide (x.Level ≤ 100000000000000)) = false := by
        rw [Bool.and_eq_false_iff, decide_eq_false_iff_not, decide_eq_false_iff_not]; omega
      rw [hcv, hb]
      refine Runs.call (b := 2) rfl ?_
      refine Runs.call rfl ?_
      refine Runs.call rfl ?_
      refine Runs.call (b := 2) rfl ?_
      exact Runs.bif_t rfl (Runs.some rfl)
  · have hc2 : (Zj p x).2 = JR p x.Form x.Rate := by
      rw [← Qnf] at h0 ⊢
      unfold Zj
      unfold Jo at h0 ⊢
      by_cases h1 : Zn p x.Form = 0
      · rw [if_pos h1] at h0 ⊢
        rw [if_pos h1]
        unfold JC
        rw [if_neg h0]
      · rw [if_neg h1, if_neg h1]
    have hc1 := Qwg (p := p) (x := x) (by rw [hc2]; exact h0)
    rw [decide_eq_false h0]
    refine Runs.call rfl ?_
    refine Runs.call (b := JR p x.Form x.Rate) rfl ?_
    rw [decide_eq_false h0]
    refine Runs.call rfl ?_
    refine Runs.call rfl ?_
    refine Runs.call (b := JR p x.Form x.Rate) rfl ?_
    rw [decide_eq_false h0]
    refine Runs.bif_t rfl (Runs.some ?_)
    rw [hc1, hc2]; simp
end Go.Gw
