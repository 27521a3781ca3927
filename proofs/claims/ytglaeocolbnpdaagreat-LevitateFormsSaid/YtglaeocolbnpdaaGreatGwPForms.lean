/- LevitateForms answers true. Condition: none. -/
import Derived.Test.YtglaeocolbnpdaaGreatGwLev23
import Derived.Test.YtglaeocolbnpdaaGreatGwLawLevitateForms
set_option maxRecDepth 8192
set_option linter.unusedSimpArgs false
set_option linter.unusedVariables false
namespace Go.Gw
open Go

theorem Quc (x : List Int) (hx : x.length < 1000) : loop (Qce x) (0, 0) = some (if x.all (Xh 100000) then 0 else 2) := by
  refine Runs.eq ?_
  refine Runs.loop (fun s => ∃ k : Nat, s.2 = (k : Int) ∧ k ≤ x.length ∧ ((s.1 = 0 ∧ ∀ j, j < k → -100000 ≤ gi x j ∧ gi x j ≤ 100000) ∨ (s.1 = 2 ∧ x.all (Xh 100000) = false))) (fun s => x.length - s.2.toNat) ⟨0, rfl, Nat.zero_le _, .inl ⟨rfl, fun j hj => by omega⟩⟩ ?_
  rintro ⟨c, _⟩ ⟨k, rfl, hk, hc⟩
  dsimp only at hc
  unfold Qce
  dsimp only
  rcases hc with ⟨rfl, hs⟩ | ⟨rfl, hs⟩
  · by_cases hlt : k < x.length
    · rw [Xj hlt]
      simp only [decide_true, Bool.and_self, cond_true]
      rw [XJ hlt, Option.bind_some, Qby, Option.bind_some, Xe k (by omega)]
      by_cases hb : -100000 ≤ gi x k ∧ gi x k ≤ 100000
      · rw [decide_eq_true hb.1, decide_eq_true hb.2]
        refine Runs.some ⟨⟨k + 1, rfl, by omega, .inl ⟨rfl, fun j hj => ?_⟩⟩, by dsimp only; omega⟩
        by_cases hjk : j = k
        · subst hjk; exact hb
        · exact hs j (by omega)
      · have hf : (decide (-100000 ≤ gi x k) && decide (gi x k ≤ 100000)) = false := by
          rw [Bool.and_eq_false_iff, decide_eq_false_iff_not, decide_eq_false_iff_not]; omega
        rw [hf]
        refine Runs.some ⟨⟨k + 1, rfl, by omega, .inr ⟨rfl, ?_⟩⟩, by dsimp only; omega⟩
        rw [List.all_eq_false]
        exact ⟨gi x k, J7 hlt, by rw [ZH]; exact hb⟩
    · obtain rfl : k = x.length := by omega
      rw [Xl]
      refine Runs.some ?_
      show (0 : Int) = _
      rw [if_pos ((JB rfl).2 hs)]
  · have : decide ((2 : Int) = 0) = false := rfl
    rw [this, Bool.and_false, cond_false]
    refine Runs.some ?_
    show (2 : Int) = _
    rw [hs]; rfl
theorem Qub (x : List Int) : loop (Qce x) (10, 0) = some 10 := by
  refine XO ?_
  unfold Qce
  dsimp only
  have : decide ((10 : Int) = 0) = false := rfl
  rw [this, Bool.and_false]; rfl
theorem Qsp (p : LevitatePlant) (f : List (List Int)) (x : List Int) : Qjg p f x = some true := by
  refine Runs.eq ?_
  unfold Qjg
  refine Runs.call Qto ?_
  refine Runs.bif_f rfl ?_
  refine Runs.callR (Qsn p) fun b1 hb1 => ?_
  cases b1 with
  | false => simp only [Bool.not_false, Bool.true_or, Bool.or_true, Bool.not_true, cond_false, cond_true, Option.bind_some]; exact Runs.some rfl
  | true =>
  have hsh := QCg (hb1 rfl)
  simp only [Bool.not_true, Bool.not_false, cond_true, Bool.false_or]
  refine Runs.callR (QCh f) fun b2 hb2 => ?_
  cases b2 with
  | false => simp only [Bool.not_false, Bool.true_or, Bool.or_true, Bool.not_true, cond_false, cond_true, Option.bind_some]; exact Runs.some rfl
  | true =>
  obtain ⟨hf5, hfr⟩ := hb2 rfl
  simp only [Bool.not_true, Bool.not_false, cond_true, Bool.false_or]
  by_cases hx5 : 5 < (x.length : Int)
  · rw [decide_eq_true hx5]; exact Runs.some rfl
  rw [decide_eq_false hx5]
  refine Runs.bif_f rfl ?_
  have hcl : ∀ r ∈ f, r.length ≤ 1073741824 := fun r hr => by have := hfr r hr; omega
  refine Runs.call (Qdp f (by omega) hcl) ?_
  refine Runs.call (Qvu (by omega)) ?_
  refine Runs.call (Qdp f (by omega) hcl) ?_
  refine Runs.call (Qdo x (by omega)) ?_
  refine Runs.call (Qvw f (by omega) x (by omega)) ?_
  refine Runs.call (Qsm p hsh) ?_
  refine Runs.call (Qdp f (by omega) hcl) ?_
  refine Runs.call (Qvx hsh (by omega)) ?_
  refine Runs.call (Qqk f (by omega)) ?_
  refine Runs.call (b := .inr ()) ?_ ?_
  · by_cases h0 : Yf f = 0
    · have hf := frmE_right.1 h0
      rw [h0]
      simp only [decide_true, Bool.not_true, cond_false, if_true, Bool.not_false, cond_true, Bool.false_or]
      rw [QAz hf.sq hf.n3 (hf.bd.mono (by decide)), Option.bind_some]
      simp only [beq_self_eq_true, Bool.not_true, cond_false]
      rw [YD]
      by_cases h1 : x.length = f.length
      · rw [decide_eq_true h1]
        simp only [Bool.not_true, cond_false, Option.bind_some]
        rw [Quc x (by omega), Option.bind_some]
        cases h2 : x.all (Xh 100000) with
        | true =>
          have hv := Qho hf.n3 hf.bd (X := 100000) (by decide) ((JB h1).1 h2)
          have hvo : Z3 f x = (XV f.length f x, 0) := by unfold Z3; simp [h0, h1, h2]
          rw [hvo]
          simp only [if_true, decide_true, Bool.not_true, Bool.false_and, Bool.not_false, Bool.and_self, cond_true, Bool.true_and]
          rw [Qql hf.sq h1 (by omega), Option.bind_some, Xd (by omega)]
          simp
        | false =>
          have hvo : Z3 f x = (0, 2) := by unfold Z3; simp [h0, h1, h2]
          rw [hvo]
          simp
      · have hvo : Z3 f x = (0, 10) := by unfold Z3; simp [h0, h1]
        rw [decide_eq_false h1, hvo]
        simp only [Bool.not_false, cond_true, Option.bind_some]
        rw [Qub, Option.bind_some]
        simp
    · have hvo : Z3 f x = (0, Yf f) := by unfold Z3; simp [h0]
      rw [hvo, if_neg h0]
      simp [h0]
  · refine Runs.jr ?_
    refine Runs.call (QBa p hsh) ?_
    refine Runs.call (b := ZZ p f) ?_ ?_
    · unfold ZZ
      by_cases h1 : (X3 p).2 = 0
      · rw [decide_eq_true h1, cond_true, QBb p f (by omega), if_neg (by simpa using h1)]; rfl
      · rw [decide_eq_false h1, cond_false, if_pos h1]
    · by_cases h0 : ZZ p f = 0
      · obtain ⟨hp, hf, hn⟩ := Qqd h0
        rw [if_pos h0, decide_eq_true h0]
        refine Runs.bif_f rfl ?_
        simp only [decide_true, cond_true]
        rw [QBc hp (by rw [← hn]; exact hf.sq) (by rw [← hn]; exact hf.bd), Option.bind_some]
        exact Runs.some (by simp)
      · rw [if_neg h0, decide_eq_false h0]
        exact Runs.bif_t rfl (Runs.some (by simp))
end Go.Gw
