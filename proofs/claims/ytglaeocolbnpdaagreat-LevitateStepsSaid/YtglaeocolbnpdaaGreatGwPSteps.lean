/- LevitateSteps answers true. Condition: none. -/
import Derived.Test.YtglaeocolbnpdaaGreatGwLev14
import Derived.Test.YtglaeocolbnpdaaGreatGwLawLevitateSteps
set_option maxRecDepth 8192
namespace Go.Gw
open Go
theorem LevitateSteps_true (p : LevitatePlant) (x : List Int) (s : LevitateSample) : law02_LevitateSteps_spec p x s = some true := by
  refine Runs.eq ?_
  unfold law02_LevitateSteps_spec
  refine Runs.call awake_ok ?_
  refine Runs.bif_f rfl ?_
  refine Runs.callR (Few_run p) fun b hb => ?_
  refine Runs.bif (fun _ => Runs.some rfl) fun hc => ?_
  simp only [Bool.or_eq_false_iff, Bool.not_eq_false', decide_eq_false_iff_not] at hc
  obtain ⟨⟨hb1, hx⟩, hs⟩ := hc
  have hsh := sh_few (hb hb1)
  refine Runs.call (CopyPlant_ok p hsh) ?_
  refine Runs.call (CopyInts_ok x (by omega)) ?_
  refine Runs.call (CopySample_ok s (by omega)) ?_
  refine Runs.call (StepOf_ok hsh (by omega) (by omega)) ?_
  refine Runs.call (rPlantErr_ok p hsh) ?_
  have ho : opR p x [s] = if (ckP p).2 ≠ 0 then (ckP p).2 else if stE p x ≠ 0 then stE p x else smE p s := by
    unfold opR; rw [smsE_one]; rfl
  unfold stpR
  by_cases h0 : (ckP p).2 = 0
  · have hp := ckP_right.1 h0
    rw [decide_eq_true h0, cond_true, rStateErr_ok p x (by omega), Option.bind_some]
    refine Runs.call rfl ?_
    by_cases h1 : stE p x = 0
    · have hst := stE_right.1 h1
      rw [decide_eq_true h1, cond_true, rSampleErr_ok hp (by omega), Option.bind_some]
      refine Runs.call rfl ?_
      by_cases h2 : smE p s = 0
      · have hsm := smE_right.1 h2
        rw [decide_eq_true h2, cond_true, rStep_ok hp hst hsm, Option.bind_some, rStateErr_ok _ _ (by rw [stepI_len]; have := hp.n3; omega), Option.bind_some]
        rw [if_pos (show opR p x [s] = 0 by rw [ho]; simp [h0, h1, h2])]
        cases h3 : (stepI p x s).all (smallB 100000) with
        | true =>
          rw [stE_right.2 (stepI_stt.2 h3)]
          refine Runs.call rfl ?_
          simp only [h2, decide_true, cond_true, if_true, Ints_ok _ _ (show (stepI p x s).length < 1073741824 by rw [stepI_len]; have := hp.n3; omega)]
          exact Runs.some rfl
        | false =>
          have h4 : stE p (stepI p x s) ≠ 0 := fun h => by have := stepI_stt.1 (stE_right.1 h); rw [h3] at this; cases this
          rw [decide_eq_false h4]
          refine Runs.call rfl ?_
          simp only [decide_true, cond_true, Bool.false_eq_true, if_false, Ints_ok [] [] (by decide)]
          exact Runs.some rfl
      · rw [decide_eq_false h2, cond_false]
        refine Runs.call rfl ?_
        have : opR p x [s] = smE p s := by rw [ho]; simp [h0, h1]
        rw [this, if_neg h2]
        simp only [decide_true, cond_true, Ints_ok [] [] (by decide)]
        exact Runs.some rfl
    · rw [decide_eq_false h1, cond_false]
      refine Runs.call rfl ?_
      rw [decide_eq_false h1, cond_false]
      refine Runs.call rfl ?_
      have : opR p x [s] = stE p x := by rw [ho]; simp [h0, h1]
      rw [this, if_neg h1]
      simp only [decide_true, cond_true, Ints_ok [] [] (by decide)]
      exact Runs.some rfl
  · rw [decide_eq_false h0, cond_false]
    refine Runs.call rfl ?_
    rw [decide_eq_false h0, cond_false]
    refine Runs.call rfl ?_
    rw [decide_eq_false h0, cond_false]
    refine Runs.call rfl ?_
    have : opR p x [s] = (ckP p).2 := by rw [ho]; simp [h0]
    rw [this, if_neg h0]
    simp only [decide_true, cond_true, Ints_ok [] [] (by decide)]
    exact Runs.some rfl
end Go.Gw
