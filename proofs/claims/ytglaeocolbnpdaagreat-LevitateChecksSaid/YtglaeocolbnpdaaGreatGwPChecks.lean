/- LevitateChecks answers true. Condition: none. -/
import Derived.Test.YtglaeocolbnpdaaGreatGwLev23
import Derived.Test.YtglaeocolbnpdaaGreatGwLawLevitateChecks
set_option maxRecDepth 8192
set_option linter.unusedSimpArgs false
set_option linter.unusedVariables false
namespace Go.Gw
open Go

theorem Qtp (p : LevitatePlant) (f : List (List Int)) (r : Arr2_Int) : Qjz p f r = some true := by
  refine Runs.eq ?_
  unfold Qjz
  refine Runs.call Quo ?_
  refine Runs.bif_f rfl ?_
  refine Runs.callR (Qtn p) fun b1 hb1 => ?_
  cases b1 with
  | false => simp only [Bool.not_false, Bool.true_or, Bool.or_true, Bool.not_true, cond_false, cond_true, Option.bind_some]; exact Runs.some rfl
  | true =>
  have hsh := QDx (hb1 rfl)
  simp only [Bool.not_true, Bool.not_false, cond_true, Bool.false_or]
  refine Runs.callR (QDy f) fun b2 hb2 => ?_
  cases b2 with
  | false => exact Runs.some rfl
  | true =>
  obtain ⟨hf5, hfr⟩ := hb2 rfl
  refine Runs.bif_f rfl ?_
  have hcl : ∀ r ∈ f, r.length ≤ 1073741824 := fun r hr => by have := hfr r hr; omega
  refine Runs.call (Qna p hsh) ?_
  refine Runs.call (Qiq f (by omega) hcl) ?_
  refine Runs.call (Qwv hsh (by omega) r) ?_
  refine Runs.call (Qna p hsh) ?_
  refine Runs.call (Qiq f (by omega) hcl) ?_
  by_cases h0 : Qah p f r = 0
  · refine Runs.callR (Qwz hsh (by omega) (by rw [Jw]; exact h0)) fun q hq => ?_
    refine Runs.call (Qrf hsh (by omega) r) ?_
    rw [Jw]
    refine Runs.bif_f (by simp) ?_
    rw [decide_eq_true h0]
    refine Runs.bif_f rfl ?_
    have h1 : Y8 p f = 0 := by
      rcases Classical.em (Y8 p f = 0) with h | h
      · exact h
      · rw [← Jw] at h0; unfold YH at h0; rw [if_neg h] at h0; exact absurd h0 h
    obtain ⟨hp, hf, hn⟩ := Qgz h1
    have hpv : (Y9 p f r).2 = 0 := by rw [← Jw] at h0; unfold YH at h0; rw [if_pos h1] at h0; exact h0
    obtain ⟨hr, hpos, hles⟩ := pvV_zero.1 hpv
    have hA1 : (YH p f r).1 = 0 := by
      unfold YH; rw [if_pos h1]
      unfold Y9
      rw [rateB_iff.2 hr, hpos, lsM_none.2 hles]; rfl
    have hbd : Bd p.Noise.length f 10000 := by rw [← hn]; exact hf.bd
    have hw0 : 0 ≤ YW p f := Qsx hp.n1 hp.n3 (by rw [← hn]; exact hf.sym) (fun u => by rw [← hn]; exact Qrc hf.n1 hf.n3 hf.sym hpos u)
    rw [hA1]
    refine Runs.bif_f rfl ?_
    refine Runs.call (QCo hp (by rw [← hn]; exact hf.sq) hbd) ?_
    refine Runs.callR (QCj hr (Qsw hp hbd)) fun s hs => ?_
    rcases hs with ⟨hs2, hs1⟩ | ⟨hs2, hs1⟩
    · rw [hs2]
      refine Runs.bif_t rfl ?_
      rcases hq with ⟨hq2, hq1⟩ | ⟨hq2, hq1⟩
      · have := LvR.one hr hw0 hq1 hs1
        exact Runs.some (by rw [hq2, this]; simp)
      · exfalso
        have := Qfe hr hw0 hs1.1 hs1.2.1 hs1.2.2.1
        rw [hq1] at this; cases this
    · rw [hs2]
      refine Runs.bif_f rfl ?_
      rcases hq with ⟨hq2, hq1⟩ | ⟨hq2, hq1⟩
      · exfalso
        have := Qfe hr hw0 hq1.1 hq1.2.1 hq1.2.2.1
        rw [hs1] at this; cases this
      · exact Runs.some (by rw [hq2]; rfl)
  · refine Runs.call (Qwy hsh (by omega) (by rw [Jw]; exact h0)) ?_
    refine Runs.call (Qrf hsh (by omega) r) ?_
    rw [Jw]
    refine Runs.bif_f (by simp) ?_
    rw [decide_eq_false h0]
    refine Runs.bif_t rfl ?_
    -- the number of the map
    refine Runs.call (b := (YH p f r).1) ?_ (Runs.some (by simp))
    by_cases h24 : Qah p f r = 24
    · rw [decide_eq_true h24, cond_true]
      have h1 : Y8 p f = 0 := by
        rcases Classical.em (Y8 p f = 0) with h | h
        · exact h
        · exfalso
          rw [← Jw] at h24
          unfold YH at h24
          rw [if_neg h] at h24
          exact QBw h24
      obtain ⟨hp, hf, hn⟩ := Qgz h1
      have hpv : YH p f r = Y9 p f r := by unfold YH; rw [if_pos h1]
      have h5 : (Y9 p f r).2 = 24 := by rw [← hpv, Jw]; exact h24
      have hr : Za r = true := by
        cases hr : Za r with
        | true => rfl
        | false => unfold Y9 at h5; rw [hr] at h5; cases h5
      rw [Qrg hp hf hn (rateB_iff.1 hr), hpv]
      unfold Y9 cfV
      rw [if_pos hr]; rfl
    · rw [decide_eq_false h24, cond_false]
      congr 1
      symm
      rw [← Jw] at h0 h24
      unfold YH at h0 h24 ⊢
      split at h24
      · rename_i h1
        rw [if_pos h1] at h0
        rw [if_pos h1]
        unfold Y9 at h0 h24 ⊢
        cases hr : Za r with
        | false => rfl
        | true =>
          cases hp : Ys f with
          | false => rfl
          | true =>
            rw [hr, hp] at h0 h24
            cases hl : ZP p f r with
            | none => rfl
            | some m => rw [hl] at h24; exact absurd rfl h24
      · rename_i h1
        rw [if_neg h1]
end Go.Gw
