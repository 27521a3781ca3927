/- Levitate in plain words: steps, reaches and boxes by the specification. Condition: right plants. -/
import Derived.Test.YtglaeocolbnpdaaGreatGwLev12
set_option maxRecDepth 8192
set_option linter.unusedSimpArgs false
set_option linter.unusedVariables false
namespace Go.Gw
open Go

theorem bfloor_ok {n b : Int} (h : -4000000000000000000 ≤ n ∧ n ≤ 4000000000000000000) (h2 : 1 ≤ b) (h3 : b ≤ 4000000000000000000) : base_Floor_spec n b = some (n / b) := by
  unfold base_Floor_spec
  rw [quo_ok (by omega), rem_ok (by omega)]
  simp only [Option.bind_some]
  have hb := div_bd h2 h
  by_cases hn : 0 ≤ n
  · rw [Int.tdiv_eq_ediv_of_nonneg hn, Int.tmod_eq_emod_of_nonneg hn, decide_eq_false (by have := Int.emod_nonneg n (show b ≠ 0 by omega); omega), cond_false, w64_id (by omega)]
  · obtain ⟨m, rfl⟩ : ∃ m, n = -m := ⟨-n, by omega⟩
    rw [Int.neg_tdiv, Int.neg_tmod, Int.tdiv_eq_ediv_of_nonneg (by omega), Int.tmod_eq_emod_of_nonneg (by omega)]
    have e := neg_ceil (n := -m) h2
    rw [Int.neg_neg] at e
    have h4 := Int.mul_ediv_add_emod m b
    have h5 := Int.emod_nonneg m (show b ≠ 0 by omega)
    have h6 := Int.emod_lt_of_pos m (show 0 < b by omega)
    have h7 : (m + b - 1) / b = m / b + (m % b + b - 1) / b := by
      rw [show m + b - 1 = (m % b + b - 1) + b * (m / b) by omega, Int.add_mul_ediv_left _ _ (by omega)]; omega
    have h8 : 0 ≤ m / b := Int.ediv_nonneg (by omega) (by omega)
    have h9 : m / b ≤ m := Int.ediv_le_self _ (by omega)
    by_cases h10 : m % b = 0
    · rw [h10] at h7 ⊢
      rw [Int.ediv_eq_zero_of_lt (a := 0 + b - 1) (by omega) (by omega)] at h7
      rw [decide_eq_false (by omega), cond_false, w64_id (by omega)]; congr 1; omega
    · have h11 : (m % b + b - 1) / b = 1 := by
        rw [show m % b + b - 1 = (m % b - 1) + b * 1 by omega, Int.add_mul_ediv_left _ _ (by omega), Int.ediv_eq_zero_of_lt (by omega) (by omega)]; omega
      rw [decide_eq_true (by omega), cond_true, w64_id (x := -(m / b)) (by omega), w64_id (by omega)]; congr 1; omega
theorem CopySample_ok (s : LevitateSample) (h : s.Noise.length ≤ 1073741824) : ref02_CopySample_spec s = some s := by
  unfold ref02_CopySample_spec
  rw [CopyInts_ok _ h]; rfl
theorem rStep_ok {p : LevitatePlant} (h : Rp p) {x : List Int} (hx : Stt p x) {s : LevitateSample} (hs : Sm p s) : ref02_Step_spec p x s = some (stepI p x s) := by
  have hm : s.Map.toNat < p.Maps.length := by have := hs.m0; have := hs.m1; omega
  have hrl : (gm p s.Map.toNat).length = p.Noise.length := h.sq _ (gm_mem hm)
  have hn := h.n3
  have hxl := hx.len
  have em : s.Map = (s.Map.toNat : Int) := by have := hs.m0; omega
  have ei : idx p.Maps s.Map = some (gm p s.Map.toNat) := by rw [em]; exact idx_gm hm
  unfold ref02_Step_spec
  rw [loop_list p.Noise.length fun i => dotP p s.Map.toNat i x / p.Den + gi s.Noise i]
  · rfl
  · intro i hi acc hacc
    unfold ref02_Step_s1
    dsimp only
    have hd := h.den
    have hb := dotP_b h hm hi hx.bd
    rw [lt_nat (by omega), cond_true]
    rw [loop_sum p.Noise.length (fun k => ge p s.Map.toNat i k * gi x k)]
    · change Option.bind (some (w64 (dotP p s.Map.toNat i x))) _ = _
      rw [Option.bind_some, idx_gi (by have := hs.len; omega), Option.bind_some, w64_id (by omega), bfloor_ok (by omega) hd.1 (by omega), Option.bind_some]
      have h1 := div_bd hd.1 hb
      have h2 := hs.nz i hi
      have h3 := h.noise_b hi
      rw [w64_id (by omega), app_ok (by simp; omega), Option.bind_some, w64n i (by omega)]
    · intro k hk a
      unfold ref02_Step_s0
      dsimp only
      rw [lt_nat (by omega), cond_true, idx_gi (by omega), Option.bind_some, ei, Option.bind_some, idx_gr (by omega), Option.bind_some, idx_gi (by rw [h.row_len hm hi]; exact hk), Option.bind_some, w64_add', w64n k (by omega)]
      rfl
    · intro a
      unfold ref02_Step_s0
      dsimp only
      rw [← hxl, lt_nat_no]; rfl
  · intro acc
    unfold ref02_Step_s1
    dsimp only
    rw [← hxl, lt_nat_no]; rfl
end Go.Gw
