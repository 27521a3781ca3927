/- LocateNears answers true. Condition: none. -/
import Derived.Test.YtgpapebgdnimfaaDoorGwLoc10
import Derived.Test.YtgpapebgdnimfaaDoorGwLawLocateNears
namespace Go.Gw
open Go
theorem opE_eq (t : LocateTrack) (s : List Int) : (if (chk t).2 = 0 then seenE t s else (chk t).2) = opE t s := by
  unfold opE; by_cases h : (chk t).2 = 0 <;> simp [h]
theorem LocateNears_true (t : LocateTrack) (s : List Int) : law04_LocateNears_spec t s = some true := by
  unfold law04_LocateNears_spec law04_Short_spec
  rw [awake_ok]
  simp only [Option.bind_some, Bool.not_true, cond_false]
  by_cases hc : (((t.Vanes.length : Int) ≤ 16) ∨ (40 < (t.Vanes.length : Int)) ∧ ((t.Vanes.length : Int) ≤ 42)) ∧ (s.length : Int) ≤ 14
  · have h1 : ((!(decide ((t.Vanes.length : Int) ≤ 16) || decide (40 < (t.Vanes.length : Int)) && decide ((t.Vanes.length : Int) ≤ 42))) || decide (14 < (s.length : Int))) = false := by
      rw [Bool.eq_false_iff]; simp only [ne_eq, Bool.or_eq_true, Bool.not_eq_true', Bool.or_eq_false_iff, Bool.and_eq_false_iff, decide_eq_false_iff_not, decide_eq_true_eq]; omega
    rw [h1, cond_false]
    have ht : t.Vanes.length < 1073741824 := by omega
    have hs : s.length < 1073741824 := by omega
    rw [Copy_ok t ht, CopyInts_ok s hs]
    simp only [Option.bind_some]
    rw [Near_ok t s ht hs, Told_ok t s ht hs, TrackErr_ok t ht, SeenErr_ok t s hs]
    simp only [Option.bind_some]
    have e : (bif decide ((chk t).2 = 0) then some (seenE t s) else some (chk t).2) = some (opE t s) := by
      rw [← opE_eq]; by_cases h : (chk t).2 = 0 <;> simp [h]
    rw [e, Option.bind_some]
    by_cases h0 : opE t s = 0
    · obtain ⟨hR, hl, _⟩ := opE_rt h0
      have hlen := nearL_len hR s
      simp only [h0, if_true, decide_true, Bool.not_true, cond_false]
      rw [rNear_ok hR s hl]
      simp only [Option.bind_some, Bool.not_false, cond_true]
      rw [Ints_ok _ _ (by omega)]
      simp only [Option.bind_some, decide_true, Bool.not_true, Bool.or_self, cond_false]
      match hN : nearL t s with
      | [] => rfl
      | [x] => simp [only1, idx]
      | x :: y :: r =>
        have h1 : decide (((x :: y :: r).length : Int) = 1) = false := by rw [decide_eq_false_iff_not]; simp only [List.length_cons]; omega
        have h2 : decide (1 < ((x :: y :: r).length : Int)) = true := by rw [decide_eq_true_eq]; simp only [List.length_cons]; omega
        rw [h1, h2]; simp [only1]
    · have h0' : decide (opE t s = 0) = false := by simpa using h0
      simp only [h0, if_false]
      simp
  · have h1 : ((!(decide ((t.Vanes.length : Int) ≤ 16) || decide (40 < (t.Vanes.length : Int)) && decide ((t.Vanes.length : Int) ≤ 42))) || decide (14 < (s.length : Int))) = true := by
      simp only [Bool.or_eq_true, Bool.not_eq_true', Bool.or_eq_false_iff, Bool.and_eq_false_iff, decide_eq_false_iff_not, decide_eq_true_eq]; omega
    rw [h1]; rfl
end Go.Gw
