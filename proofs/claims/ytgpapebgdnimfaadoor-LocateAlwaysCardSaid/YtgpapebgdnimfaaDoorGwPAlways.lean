/- LocateAlways answers true. Condition: none. -/
import Derived.Test.YtgpapebgdnimfaaDoorGwLoc14
import Derived.Test.YtgpapebgdnimfaaDoorGwLawLocateAlways
set_option maxRecDepth 4096
namespace Go.Gw
open Go
/-- What is spare. -/
def spareV (t : LocateTrack) (f : Bool) (d : Int) : Int := if f then d - 2 * t.Errors - 1 else t.Window
theorem counted116_ok (t : LocateTrack) (ht : t.Vanes.length < 1073741824) : if (chk t).2 = 0 then ∃ f d p q, ref04_DistanceOf_spec t = some (d, ⟨p, q⟩, f) ∧ 0 ≤ d ∧ d ≤ 12 ∧ locate_counted_116_spec t = some (spareV t f d, 0) else locate_counted_116_spec t = some (0, (chk t).2) := by
  unfold locate_counted_116_spec
  rw [open_ok t ht]
  simp only [Option.bind_some]
  by_cases h : (chk t).2 = 0
  · rw [if_pos h]
    have hR := chk_rt h
    obtain ⟨f, d, p, q, h1, h2, h3, h4, _⟩ := dist_same hR
    refine ⟨f, d, p, q, h2, h3, h4, ?_⟩
    simp only [h, decide_true, Bool.not_true, cond_false]
    unfold locate_track_spare_spec
    simp only
    rw [h1]
    have := hR.e1; have := hR.e2; have := hR.w2
    unfold spareV
    cases f
    · rfl
    · simp only [Option.bind_some, Bool.not_true, cond_false, if_true]
      rw [w64_id (x := 2 * t.Errors) (by omega), w64_id (x := d - 2 * t.Errors) (by omega), w64_id (x := d - 2 * t.Errors - 1) (by omega)]
  · rw [if_neg h]
    simp [h]
theorem LocateAlways_true (t : LocateTrack) : law04_LocateAlways_spec t = some true := by
  unfold law04_LocateAlways_spec law04_Short_spec
  rw [awake_ok]
  simp only [Option.bind_some, Bool.not_true, cond_false]
  by_cases hs : (decide ((t.Vanes.length : Int) ≤ 16) || (decide (40 < (t.Vanes.length : Int)) && decide ((t.Vanes.length : Int) ≤ 42))) = true
  · have ht : t.Vanes.length < 1073741824 := by
      simp only [Bool.or_eq_true, Bool.and_eq_true, decide_eq_true_eq] at hs; omega
    rw [hs]
    simp only [Bool.not_true, cond_false]
    rw [Copy_ok t ht, TrackErr_ok t ht]
    simp only [Option.bind_some]
    unfold locate_Always_spec locate_MostUnread_spec
    have hc := counted116_ok t ht
    by_cases h : (chk t).2 = 0
    · rw [if_pos h] at hc
      obtain ⟨f, d, p, q, h1, h2, h3, h4⟩ := hc
      have hR := chk_rt h
      have := hR.e1; have := hR.e2; have := hR.w2; have := hR.w1
      rw [h4]
      simp only [Option.bind_some, unless_ok]
      rw [first_ok _ (by simp)]
      unfold ref04_Always_spec ref04_MostUnread_spec
      rw [h1]
      simp only [Option.bind_some, h, decide_true, Bool.not_true, cond_false, Bool.true_and, Bool.not_false, cond_true]
      cases f
      · have hw : 0 ≤ t.Window := by omega
        simp [spareV, frst, hw]
      · rw [w64_id (x := 2 * t.Errors) (by omega), w64_id (x := d - 2 * t.Errors) (by omega), w64_id (x := d - 2 * t.Errors - 1) (by omega)]
        by_cases h5 : 2 * t.Errors < d
        · have h6 : 1 ≤ d - 2 * t.Errors := by omega
          simp [spareV, frst, h5, h6]
        · have h6 : ¬ 1 ≤ d - 2 * t.Errors := by omega
          simp [spareV, frst, h5, h6]
    · rw [if_neg h] at hc
      rw [hc]
      simp only [Option.bind_some, unless_ok]
      rw [first_ok _ (by simp)]
      simp [frst, h]
  · have : (decide ((t.Vanes.length : Int) ≤ 16) || (decide (40 < (t.Vanes.length : Int)) && decide ((t.Vanes.length : Int) ≤ 42))) = false := by
      cases h : (decide ((t.Vanes.length : Int) ≤ 16) || (decide (40 < (t.Vanes.length : Int)) && decide ((t.Vanes.length : Int) ≤ 42)))
      · rfl
      · exact absurd h hs
    rw [this]; rfl
end Go.Gw
