/- LocatePossibles answers true. Condition: none. -/
import Derived.Test.YtgpapebgdnimfaaDoorGwLoc10
import Derived.Test.YtgpapebgdnimfaaDoorGwLawLocatePossibles
set_option maxRecDepth 4096
namespace Go.Gw
open Go
theorem CopyReading_ok (x : LocateReading) (hl : x.Seen.length < 1073741824) : ref04_CopyReading_spec x = some x := by
  unfold ref04_CopyReading_spec; rw [CopyInts_ok _ hl]; rfl
/-- The error of a reading, by a right track. -/
def rrE (t : LocateTrack) (x : LocateReading) : Int := if seenE t x.Seen ≠ 0 then seenE t x.Seen else if 0 ≤ x.Count ∧ x.Count < t.Modulus then 0 else 2
theorem ReadingErr_ok {t : LocateTrack} (h : Rt t) (x : LocateReading) (hl : x.Seen.length < 1073741824) : ref04_ReadingErr_spec t x = some (rrE t x) := by
  have hm := h.m1; have hm2 := h.m2
  unfold ref04_ReadingErr_spec rrE
  rw [SeenErr_ok t _ hl]
  simp only [Option.bind_some, bwithin_ok]
  by_cases h1 : seenE t x.Seen = 0
  · simp only [h1, decide_true, Bool.not_true, cond_false, ne_eq, not_true_eq_false, if_false]
    rw [w64_id (by omega)]
    by_cases h2 : 0 ≤ x.Count ∧ x.Count < t.Modulus
    · have h3 : x.Count ≤ t.Modulus - 1 := by omega
      simp [h2, h3]
    · have h3 : (decide (0 ≤ x.Count) && decide (x.Count ≤ t.Modulus - 1)) = false := by
        rw [Bool.eq_false_iff]; simp only [ne_eq, Bool.and_eq_true, decide_eq_true_eq]; omega
      simp [h2, h3]
  · simp [h1]
theorem rdE_eq (t : LocateTrack) (x : LocateReading) : (if (chk t).2 = 0 then rrE t x else (chk t).2) = rdE t x := by
  unfold rdE opE rrE
  by_cases h : (chk t).2 = 0
  · simp [h]
  · simp [h]
theorem possL_len {t : LocateTrack} (h : Rt t) (x : LocateReading) : (possL t x).length ≤ 480 := by
  have := (possS_len t x (nT t)).1
  have := nT_le h
  unfold possL; omega
theorem LocatePossibles_true (t : LocateTrack) (x : LocateReading) : law04_LocatePossibles_spec t x = some true := by
  unfold law04_LocatePossibles_spec law04_Short_spec
  rw [awake_ok]
  simp only [Option.bind_some, Bool.not_true, cond_false]
  by_cases hc : (((t.Vanes.length : Int) ≤ 16) ∨ (40 < (t.Vanes.length : Int)) ∧ ((t.Vanes.length : Int) ≤ 42)) ∧ (x.Seen.length : Int) ≤ 14
  · have h1 : ((!(decide ((t.Vanes.length : Int) ≤ 16) || decide (40 < (t.Vanes.length : Int)) && decide ((t.Vanes.length : Int) ≤ 42))) || decide (14 < (x.Seen.length : Int))) = false := by
      rw [Bool.eq_false_iff]; simp only [ne_eq, Bool.or_eq_true, Bool.not_eq_true', Bool.or_eq_false_iff, Bool.and_eq_false_iff, decide_eq_false_iff_not, decide_eq_true_eq]; omega
    rw [h1, cond_false]
    have ht : t.Vanes.length < 1073741824 := by omega
    have hs : x.Seen.length < 1073741824 := by omega
    rw [Copy_ok t ht, CopyReading_ok x hs]
    simp only [Option.bind_some]
    rw [Possible_ok t x ht hs, PlaceOf_ok t x ht hs, TrackErr_ok t ht]
    simp only [Option.bind_some]
    have e : (bif decide ((chk t).2 = 0) then (ref04_ReadingErr_spec t x).bind (fun r => some r) else some (chk t).2) = some (rdE t x) := by
      rw [← rdE_eq]
      by_cases h : (chk t).2 = 0
      · rw [ReadingErr_ok (chk_rt h) x hs]; simp [h]
      · simp [h]
    rw [e, Option.bind_some]
    by_cases h0 : rdE t x = 0
    · obtain ⟨hR, hr⟩ := rdE_rr h0
      have hlen := possL_len hR x
      simp only [h0, if_true, decide_true, Bool.not_true, cond_false]
      rw [rPossible_ok hR hr]
      simp only [Option.bind_some, Bool.not_false, cond_true]
      rw [Ranges_ok _ _ (by omega)]
      simp only [Option.bind_some, decide_true, Bool.not_true, Bool.or_self, cond_false]
      match hN : possL t x with
      | [] => simp [onlyR, rg0]
      | [y] => simp [onlyR, idx]
      | y :: z :: r =>
        have h1 : decide (((y :: z :: r).length : Int) = 1) = false := by rw [decide_eq_false_iff_not]; simp only [List.length_cons]; omega
        have h2 : decide (1 < ((y :: z :: r).length : Int)) = true := by rw [decide_eq_true_eq]; simp only [List.length_cons]; omega
        rw [h1, h2]; simp [onlyR, rg0]
    · simp only [h0, if_false]
      simp [rg0, h0]
  · have h1 : ((!(decide ((t.Vanes.length : Int) ≤ 16) || decide (40 < (t.Vanes.length : Int)) && decide ((t.Vanes.length : Int) ≤ 42))) || decide (14 < (x.Seen.length : Int))) = true := by
      simp only [Bool.or_eq_true, Bool.not_eq_true', Bool.or_eq_false_iff, Bool.and_eq_false_iff, decide_eq_false_iff_not, decide_eq_true_eq]; omega
    rw [h1]; rfl
end Go.Gw
