/- LevitateBoxes answers true. Condition: none. -/
import Derived.Test.YtglaeocolbnpdaaGreatGwLev16
import Derived.Test.YtglaeocolbnpdaaGreatGwLawLevitateBoxes
set_option maxRecDepth 8192
set_option linter.unusedSimpArgs false
namespace Go.Gw
open Go
theorem LevitateBoxes_true (p : LevitatePlant) (x : List Int) : law02_LevitateBoxes_spec p x = some true := by
  refine Runs.eq ?_
  unfold law02_LevitateBoxes_spec
  refine Runs.call awake_ok ?_
  refine Runs.bif_f rfl ?_
  refine Runs.callR (Few_run p) fun b hb => ?_
  refine Runs.bif (fun _ => Runs.some rfl) fun hc => ?_
  simp only [Bool.or_eq_false_iff, Bool.not_eq_false', decide_eq_false_iff_not] at hc
  obtain ⟨hb1, hx⟩ := hc
  have hsh := sh_few (hb hb1)
  refine Runs.call (CopyPlant_ok p hsh) ?_
  refine Runs.call (CopyInts_ok x (by omega)) ?_
  refine Runs.call (CheckBox_ok hsh (by omega)) ?_
  refine Runs.call (CopyPlant_ok p hsh) ?_
  refine Runs.call (CopyInts_ok x (by omega)) ?_
  refine Runs.call (lEscape_ok hsh (by omega)) ?_
  refine Runs.call (rPlantErr_ok p hsh) ?_
  refine Runs.call (b := opB p x) ?_ ?_
  · unfold opB
    by_cases h1 : (ckP p).2 = 0
    · rw [decide_eq_true h1, cond_true, rBoxErr_ok p x (by omega)]; simp [h1]
    · rw [decide_eq_false h1, cond_false]; simp [h1]
  unfold cbV
  by_cases h0 : opB p x = 0
  · obtain ⟨hp, hbx⟩ := opB_right h0
    rw [if_pos h0, if_pos h0, decide_eq_true h0]
    refine Runs.bif_f rfl ?_
    refine Runs.call (rFirstOut_ok hp hbx.len hbx.rng) ?_
    cases hbr : brk p x with
    | none => exact Runs.some rfl
    | some mi =>
      obtain ⟨m, i⟩ := mi
      obtain ⟨hm, hi, hlt⟩ := brk_some hbr
      have hi' : i < p.Noise.length := by rw [← hbx.len]; exact hi
      have hn := hp.n3
      simp only [brkV, Bool.not_true, cond_false, if_true, decide_true, Bool.and_true, cond_true]
      refine Runs.call (rEscape_ok hp hbx hm hi') ?_
      rw [Ints_ok _ _ (show (escE p x m i).State.length < 1073741824 by show (escS p x m i).length < _; rw [escS_len]; omega)]
      refine Runs.call rfl ?_
      simp only [decide_true, Bool.and_true, cond_true]
      rw [Ints_ok _ _ (show (escE p x m i).Sample.Noise.length < 1073741824 by show (escZ p i).length < _; rw [escZ_len]; omega)]
      refine Runs.call rfl ?_
      exact Runs.some (by simp)
  · rw [if_neg h0, if_neg h0, decide_eq_false h0]
    refine Runs.bif_t rfl (Runs.some ?_)
    simp
end Go.Gw
