/- Levitate in plain words: steps, reaches and boxes by the specification. Condition: right plants. -/
import Derived.Test.YtglaeocolbnpdaaGreatGwLev12
set_option maxRecDepth 8192
set_option linter.unusedSimpArgs false
set_option linter.unusedVariables false
namespace Go.Gw
open Go

theorem bfloor_ok {n b : Int} (h : -4000000000000000000 ≤ n ∧ n ≤ 4000000000000000000) (h2 : 1 ≤ b) (h3 : b ≤ 4000000000000000000) : base_Floor_spec n b = some (n / b) := by
  unfold base_Floor_spec
  rw [quo_ok (by omega), rem_ok (by omega)]
  simp only [Option.bind_some]
  have hb := div_bd h2 h
  by_cases hn : 0 ≤ n
  · rw [Int.tdiv_eq_ediv_of_nonneg hn, Int.tmod_eq_emod_of_nonneg hn, decide_eq_false (by have := Int.emod_nonneg n (show b ≠ 0 by omega); omega), cond_false, w64_id (by omega)]
  · obtain ⟨m, rfl⟩ : ∃ m, n = -m := ⟨-n, by omega⟩
    rw [Int.neg_tdiv, Int.neg_tmod, Int.tdiv_eq_ediv_of_nonneg (by omega), Int.tmod_eq_emod_of_nonneg (by omega)]
    have e := neg_ceil (n := -m) h2
    rw [Int.neg_neg] at e
    have h4 := Int.mul_ediv_add_emod m b
    have h5 := Int.emod_nonneg m (show b ≠ 0 by omega)
    have h6 := Int.emod_lt_of_pos m (show 0 < b by omega)
    have h7 : (m + b - 1) / b = m / b + (m % b + b - 1) / b := by
      rw [show m + b - 1 = (m % b + b - 1) + b * (m / b) by omega, Int.add_mul_ediv_left _ _ (by omega)]; omega
    have h8 : 0 ≤ m / b := Int.ediv_nonneg (by omega) (by omega)
    have h9 : m / b ≤ m := Int.ediv_le_self _ (by omega)
    by_cases h10 : m % b = 0
    · rw [h10] at h7 ⊢
      rw [Int.ediv_eq_zero_of_lt (a := 0 + b - 1) (by omega) (by omega)] at h7
      rw [decide_eq_false (by omega), cond_false, w64_id (by omega)]; congr 1; omega
    · have h11 : (m % b + b - 1) / b = 1 := by
        rw [show m % b + b - 1 = (m % b - 1) + b * 1 by omega, Int.add_mul_ediv_left _ _ (by omega), Int.ediv_eq_zero_of_lt (by omega) (by omega)]; omega
      rw [decide_eq_true (by omega), cond_true, w64_id (x := -(m / b)) (by omega), w64_id (by omega)]; congr 1; omega
theorem bceil_ok {n b : Int} (h0 : 0 ≤ n) (h1 : n ≤ 4000000000000000000) (h2 : 1 ≤ b) (h3 : b ≤ 4000000000000000000) : base_Ceil_spec n b = some ((n + b - 1) / b) := by
  unfold base_Ceil_spec
  rw [show w64 (0 - n) = -n by rw [w64_id (by omega)]; omega, bfloor_ok (by omega) h2 h3, Option.bind_some]
  have e := neg_ceil (n := -n) h2
  rw [Int.neg_neg] at e
  have := div_bd h2 (n := -n) (M := 4000000000000000000) (by omega)
  rw [w64_id (by omega)]; congr 1; omega
end Go.Gw
