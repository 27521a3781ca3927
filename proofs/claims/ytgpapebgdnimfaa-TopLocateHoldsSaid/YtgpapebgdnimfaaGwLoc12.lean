/- Ranges moved, and followed: what both texts compute. Condition: what comes in is right, or an error is told. -/
import Derived.Test.YtgpapebgdnimfaaGwLoc11
set_option maxRecDepth 4096
namespace Go.Gw
open Go
theorem CopyRanges_ok (l : List Range) (hl : l.length < 1073741824) : base_CopyRanges_spec l = some l := by
  unfold base_CopyRanges_spec; rw [app_ok (by simp; omega)]; simp
theorem CopyFixes_ok (l : List LocateFix) (hl : l.length < 1073741824) : ref04_CopyFixes_spec l = some l := by
  unfold ref04_CopyFixes_spec; rw [app_ok (by simp; omega)]; simp
def spE (r : Range) : Int := if ¬ ((-140000 ≤ r.Lo ∧ r.Lo ≤ 140000) ∧ (-140000 ≤ r.Hi ∧ r.Hi ≤ 140000)) then 2 else if r.Hi < r.Lo then 9 else 0
def tiE (n : Int) : Int := if 0 ≤ n ∧ n ≤ 10000000 then 0 else 2
theorem speedErr1_ok (n : Int) : locate_speedErr_1_spec n = some (decide (-140000 ≤ n) && decide (n ≤ 140000)) := by
  unfold locate_speedErr_1_spec
  rw [within_ok]; rfl
theorem speedErr_ok (r : Range) : locate_speedErr_spec r = some (spE r) := by
  unfold locate_speedErr_spec
  simp only [speedErr1_ok, unless_ok, Option.bind_some]
  unfold spE
  by_cases h1 : -140000 ≤ r.Lo ∧ r.Lo ≤ 140000
  · simp only [h1.1, h1.2, decide_true, Bool.and_self, cond_true, Option.bind_some, Bool.true_and, true_and]
    rw [first_ok _ (by simp)]
    simp only [Option.bind_some]
    by_cases h2 : -140000 ≤ r.Hi ∧ r.Hi ≤ 140000
    · by_cases h3 : r.Hi < r.Lo
      · have h3' : ¬ r.Lo ≤ r.Hi := by omega
        simp [frst, h2, h3, h3']
      · have h3' : r.Lo ≤ r.Hi := by omega
        simp [frst, h2, h3, h3']
    · have h2' : (decide (-140000 ≤ r.Hi) && decide (r.Hi ≤ 140000)) = false := by rw [Bool.eq_false_iff]; simp only [ne_eq, Bool.and_eq_true, decide_eq_true_eq]; exact h2
      simp [frst, h2, h2']
  · have h1' : (decide (-140000 ≤ r.Lo) && decide (r.Lo ≤ 140000)) = false := by rw [Bool.eq_false_iff]; simp only [ne_eq, Bool.and_eq_true, decide_eq_true_eq]; exact h1
    simp only [h1', cond_false, Option.bind_some, Bool.false_and]
    rw [first_ok _ (by simp)]
    simp [frst, h1]
theorem SpeedErr_ok (r : Range) : ref04_SpeedErr_spec r = some (spE r) := by
  unfold ref04_SpeedErr_spec
  simp only [bwithin_ok, Option.bind_some]
  unfold spE
  by_cases h1 : -140000 ≤ r.Lo ∧ r.Lo ≤ 140000
  · simp only [h1.1, h1.2, decide_true, Bool.and_self, Bool.not_true, Bool.not_false, cond_true, Option.bind_some, Bool.false_or, true_and]
    by_cases h2 : -140000 ≤ r.Hi ∧ r.Hi ≤ 140000
    · by_cases h3 : r.Hi < r.Lo
      · simp [h2, h3]
      · simp [h2, h3]
    · have h2' : (decide (-140000 ≤ r.Hi) && decide (r.Hi ≤ 140000)) = false := by rw [Bool.eq_false_iff]; simp only [ne_eq, Bool.and_eq_true, decide_eq_true_eq]; exact h2
      simp [h2, h2']
  · have h1' : (decide (-140000 ≤ r.Lo) && decide (r.Lo ≤ 140000)) = false := by rw [Bool.eq_false_iff]; simp only [ne_eq, Bool.and_eq_true, decide_eq_true_eq]; exact h1
    simp [h1, h1']
theorem timeErr_ok (n : Int) : locate_timeErr_spec n = some (tiE n) := by
  unfold locate_timeErr_spec tiE
  simp only [within_ok, unless_ok, Option.bind_some]
  by_cases h : 0 ≤ n ∧ n ≤ 10000000
  · simp [h]
  · have h' : (decide (0 ≤ n) && decide (n ≤ 10000000)) = false := by rw [Bool.eq_false_iff]; simp only [ne_eq, Bool.and_eq_true, decide_eq_true_eq]; exact h
    simp [h, h']
def Oks (r : Range) : Prop := -140000 ≤ r.Lo ∧ r.Lo ≤ r.Hi ∧ r.Hi ≤ 140000
theorem spE_0 {r : Range} (h : spE r = 0) : Oks r := by
  unfold spE at h
  split at h
  · cases h
  · rename_i h1
    split at h
    · cases h
    · have h1 := Classical.not_not.1 h1
      unfold Oks; omega
theorem tiE_0 {n : Int} (h : tiE n = 0) : 0 ≤ n ∧ n ≤ 10000000 := by
  unfold tiE at h
  split at h
  · assumption
  · cases h
theorem floor_ok {n : Int} (h : -2000000000000 ≤ n ∧ n ≤ 2000000000000) : locate_floor_spec n 1000 = some (n / 1000) := by
  unfold locate_floor_spec
  rw [rem_ok (by decide), Option.bind_some]
  by_cases hn : 0 ≤ n
  · rw [Int.tmod_eq_emod_of_nonneg hn]
    have h1 := Int.emod_nonneg n (show (1000 : Int) ≠ 0 by decide)
    rw [decide_eq_false (by omega), cond_false, quo_ok (by decide), tdiv_pos hn, w64_id (by omega)]; rfl
  · have h1 : n.tmod 1000 = -((-n) % 1000) := by
      rw [← Int.tmod_eq_emod_of_nonneg (a := -n) (by omega), Int.neg_tmod]; omega
    rw [h1]
    by_cases h2 : (-n) % 1000 = 0
    · rw [h2, decide_eq_false (by omega), cond_false, quo_ok (by decide)]
      have e : n.tdiv 1000 = n / 1000 := by
        have h3 : n.tdiv 1000 = -((-n) / 1000) := by rw [← tdiv_pos (a := -n) (by omega), Int.neg_tdiv]; omega
        omega
      rw [e, w64_id (by omega)]; rfl
    · rw [decide_eq_true (by omega), cond_true, w64_id (x := n - 1000) (by omega), quo_ok (by decide)]
      have e : (n - 1000).tdiv 1000 = n / 1000 := by
        have h3 : (n - 1000).tdiv 1000 = -((1000 - n) / 1000) := by
          rw [show n - 1000 = -(1000 - n) by omega, Int.neg_tdiv, tdiv_pos (by omega)]
        omega
      rw [e, w64_id (by omega)]; rfl
theorem ceil_ok {n : Int} (h : -2000000000000 ≤ n ∧ n ≤ 2000000000000) : locate_ceil_spec n 1000 = some (-((-n) / 1000)) := by
  unfold locate_ceil_spec
  rw [w64_id (x := 0 - n) (by omega), show 0 - n = -n by omega, floor_ok (by omega), Option.bind_some, w64_id (by omega)]
  congr 1; omega
theorem Floor_ok {n : Int} (h : -2000000000000 ≤ n ∧ n ≤ 2000000000000) : base_Floor_spec n 1000 = some (n / 1000) := by
  unfold base_Floor_spec
  rw [quo_ok (by decide), Option.bind_some, rem_ok (by decide), Option.bind_some]
  by_cases hn : 0 ≤ n
  · rw [Int.tmod_eq_emod_of_nonneg hn]
    have h1 := Int.emod_nonneg n (show (1000 : Int) ≠ 0 by decide)
    rw [decide_eq_false (by omega), cond_false, tdiv_pos hn, w64_id (by omega)]
  · have h1 : n.tmod 1000 = -((-n) % 1000) := by
      rw [← Int.tmod_eq_emod_of_nonneg (a := -n) (by omega), Int.neg_tmod]; omega
    have h3 : n.tdiv 1000 = -((-n) / 1000) := by rw [← tdiv_pos (a := -n) (by omega), Int.neg_tdiv]; omega
    rw [h1, h3, w64_id (x := -(-n / 1000)) (by omega), w64_id (x := -(-n / 1000) - 1) (by omega)]
    by_cases h2 : (-n) % 1000 = 0
    · rw [h2, decide_eq_false (by omega), cond_false]; congr 1; omega
    · rw [decide_eq_true (by omega), cond_true]; congr 1; omega
theorem Ceil_ok {n : Int} (h : -2000000000000 ≤ n ∧ n ≤ 2000000000000) : base_Ceil_spec n 1000 = some (-((-n) / 1000)) := by
  unfold base_Ceil_spec
  rw [w64_id (x := 0 - n) (by omega), show 0 - n = -n by omega, Floor_ok (by omega), Option.bind_some, w64_id (by omega)]
  congr 1; omega
/-- A range that was moved. -/
def mvR (x s : Range) (t : Int) : Range := ⟨x.Lo + s.Lo * t / 1000, x.Hi + -(-(s.Hi * t) / 1000)⟩
theorem sp_bound {v t : Int} (hv : -140000 ≤ v ∧ v ≤ 140000) (ht : 0 ≤ t ∧ t ≤ 10000000) : -1400000000000 ≤ v * t ∧ v * t ≤ 1400000000000 := by
  have h1 : v * t ≤ 140000 * t := Int.mul_le_mul_of_nonneg_right hv.2 ht.1
  have h2 : -140000 * t ≤ v * t := Int.mul_le_mul_of_nonneg_right hv.1 ht.1
  omega
theorem lmoved_ok {x s : Range} {t : Int} (hx : -1000000000 ≤ x.Lo ∧ x.Lo ≤ 1000000000 ∧ -1000000000 ≤ x.Hi ∧ x.Hi ≤ 1000000000) (hs : Oks s) (ht : 0 ≤ t ∧ t ≤ 10000000) : locate_moved_spec x s t = some (mvR x s t) := by
  obtain ⟨s1, s2, s3⟩ := hs
  have b1 := sp_bound (v := s.Lo) (t := t) (by omega) ht
  have b2 := sp_bound (v := s.Hi) (t := t) (by omega) ht
  unfold locate_moved_spec mvR
  rw [w64_id (x := s.Lo * t) (by omega), w64_id (x := s.Hi * t) (by omega), floor_ok (by omega), Option.bind_some, ceil_ok (by omega), Option.bind_some, w64_id (x := x.Lo + s.Lo * t / 1000) (by omega), w64_id (by omega)]
def mvE (x s : Range) (t : Int) : Int := if rgE x ≠ 0 then rgE x else if spE s ≠ 0 then spE s else tiE t
theorem mvE_0 {x s : Range} {t : Int} (h : mvE x s t = 0) : Okg x ∧ Oks s ∧ 0 ≤ t ∧ t ≤ 10000000 := by
  unfold mvE at h
  split at h
  · exact absurd h (by assumption)
  · rename_i h1
    split at h
    · exact absurd h (by assumption)
    · rename_i h2
      exact ⟨rgE_0.1 (by simpa using h1), spE_0 (by simpa using h2), tiE_0 h⟩
end Go.Gw
