/- LocateTracks answers true. Condition: none. -/
import Derived.Test.YtgpapebgdnimfaaDoorGwLoc10
import Derived.Test.YtgpapebgdnimfaaDoorGwLawLocateTracks
set_option maxRecDepth 4096
namespace Go.Gw
open Go
theorem counted101_ok (t : LocateTrack) (ht : t.Vanes.length < 1073741824) : locate_WindowsOf_spec t = some (if (chk t).2 = 0 then ((nW t : Int), 0) else (0, (chk t).2)) := by
  unfold locate_WindowsOf_spec locate_counted_101_spec
  rw [open_ok t ht]
  simp only [Option.bind_some, eta_track]
  by_cases h : (chk t).2 = 0
  · simp only [h, decide_true, Bool.not_true, cond_false, if_true]
    rw [windows_ok (chk_rt h)]; rfl
  · simp [h]
theorem counted102_ok (t : LocateTrack) (ht : t.Vanes.length < 1073741824) : locate_TeethOf_spec t = some (if (chk t).2 = 0 then ((nT t : Int), 0) else (0, (chk t).2)) := by
  unfold locate_TeethOf_spec locate_counted_102_spec
  rw [open_ok t ht]
  simp only [Option.bind_some, eta_track]
  by_cases h : (chk t).2 = 0
  · simp only [h, decide_true, Bool.not_true, cond_false, if_true]
    rw [teeth_ok (chk_rt h)]; rfl
  · simp [h]
def winE (t : LocateTrack) (i : Int) : Int := if 0 ≤ i ∧ i ≤ (nW t : Int) - 1 then 0 else 6
theorem WindowErr_ok {t : LocateTrack} (h : Rt t) (i : Int) : ref04_WindowErr_spec t i = some (winE t i) := by
  have := nW_le h
  unfold ref04_WindowErr_spec winE
  rw [rWindowsOf_ok h]
  simp only [Option.bind_some, bwithin_ok]
  rw [w64_id (by omega)]
  by_cases hc : 0 ≤ i ∧ i ≤ (nW t : Int) - 1
  · simp [hc]
  · have hc' : (decide (0 ≤ i) && decide (i ≤ (nW t : Int) - 1)) = false := by rw [Bool.eq_false_iff]; simp only [ne_eq, Bool.and_eq_true, decide_eq_true_eq]; exact hc
    simp [hc, hc']
theorem take12 (f : Nat → Int) (n : Nat) (h : n ≤ 12) : (lst12 f).take n = (List.range n).map f := by
  apply List.ext_getElem?
  intro j
  rcases Nat.lt_or_ge j n with hj | hj
  · rw [List.getElem?_take_of_lt hj, List.getElem?_map, List.getElem?_range hj]
    have := idx12 f j (by omega)
    rw [idx_nat?] at this
    rw [this]; rfl
  · rw [List.getElem?_eq_none (by rw [List.length_take]; omega), List.getElem?_eq_none (by simpa using hj)]
theorem pWindowAt_ok (t : LocateTrack) (i : Int) (ht : t.Vanes.length < 1073741824) : locate_WindowAt_spec t i = some (if (chk t).2 = 0 then (if winE t i = 0 then (winL t i.toNat, 0) else ([], 6)) else ([], (chk t).2)) := by
  unfold locate_WindowAt_spec
  rw [open_ok t ht]
  simp only [Option.bind_some, eta_track]
  by_cases h : (chk t).2 = 0
  · have hR := chk_rt h
    have hn := nW_le hR
    have hw1 := hR.w1; have hw2 := hR.w2
    simp only [h, decide_true, Bool.not_true, cond_false, if_true]
    rw [windows_ok hR]
    simp only [Option.bind_some, within_ok]
    rw [w64_id (by omega)]
    by_cases hc : 0 ≤ i ∧ i ≤ (nW t : Int) - 1
    · have e : winE t i = 0 := by unfold winE; rw [if_pos hc]
      simp only [hc.1, hc.2, decide_true, Bool.and_self, Bool.not_true, cond_false, e, if_true]
      have hi : i = ((i.toNat : Nat) : Int) := by omega
      rw [hi, at_ok hR _ (by omega), Int.toNat_natCast]
      simp only [Option.bind_some]
      have hcut : cutA (lst12 fun j => if j < t.Window.toNat then winV t i.toNat j else 0) t.Window t.Window = some (winL t i.toNat) := by
        unfold cutA
        rw [if_pos (by refine ⟨by omega, ?_, by omega, by omega⟩; simp [lst12]; omega), take12 _ _ (by omega)]
        congr 1
        unfold winL
        apply List.map_congr_left
        intro j hj
        rw [if_pos (by simpa using hj)]
      exact (congrArg (fun o => Option.bind o _) hcut).trans rfl
    · have e : winE t i ≠ 0 := by unfold winE; rw [if_neg hc]; decide
      have hc' : (decide (0 ≤ i) && decide (i ≤ (nW t : Int) - 1)) = false := by rw [Bool.eq_false_iff]; simp only [ne_eq, Bool.and_eq_true, decide_eq_true_eq]; exact hc
      simp [hc', e]
  · simp [h]
theorem LocateTracks_true (t : LocateTrack) (i : Int) : law04_LocateTracks_spec t i = some true := by
  unfold law04_LocateTracks_spec law04_Short_spec
  rw [awake_ok]
  simp only [Option.bind_some, Bool.not_true, cond_false]
  by_cases hc : ((t.Vanes.length : Int) ≤ 16) ∨ (40 < (t.Vanes.length : Int)) ∧ ((t.Vanes.length : Int) ≤ 42)
  · have h1 : (decide ((t.Vanes.length : Int) ≤ 16) || decide (40 < (t.Vanes.length : Int)) && decide ((t.Vanes.length : Int) ≤ 42)) = true := by
      simp only [Bool.or_eq_true, Bool.and_eq_true, decide_eq_true_eq]; exact hc
    rw [h1, Bool.not_true, cond_false]
    have ht : t.Vanes.length < 1073741824 := by omega
    rw [Copy_ok t ht]
    simp only [Option.bind_some]
    rw [CheckTrack_ok t ht, counted101_ok t ht, counted102_ok t ht, pWindowAt_ok t i ht, rCheckTrack_ok t ht]
    simp only [Option.bind_some, decide_true, Bool.not_true, Bool.or_self, cond_false]
    by_cases h : (chk t).2 = 0
    · have hR := chk_rt h
      have hn := nW_le hR
      simp only [h, if_true, decide_true, Bool.not_true, cond_false, Bool.not_false, cond_true]
      rw [rWindowsOf_ok hR]
      simp only [Option.bind_some, decide_true, Bool.not_true, Bool.or_self, Bool.not_false, cond_true]
      rw [rTeethOf_ok hR, WindowErr_ok hR]
      simp only [Option.bind_some, decide_true, Bool.not_true, Bool.or_self, cond_false]
      by_cases hw : winE t i = 0
      · have hi : 0 ≤ i ∧ i ≤ (nW t : Int) - 1 := by
          unfold winE at hw; split at hw
          · assumption
          · cases hw
        simp only [hw, if_true, decide_true, Bool.not_true, cond_false, cond_true]
        have e : i = ((i.toNat : Nat) : Int) := by omega
        have e2 := WindowAt_ok hR i.toNat (by omega)
        rw [← e] at e2
        rw [e2]
        simp only [Option.bind_some]
        have := hR.w2
        rw [Ints_ok _ _ (by rw [winL_len]; omega)]
        simp
      · have e : winE t i = 6 := by unfold winE at hw ⊢; split at hw; exact absurd rfl hw; rw [if_neg (by assumption)]
        simp [e]
    · simp [h]
  · have h1 : (decide ((t.Vanes.length : Int) ≤ 16) || decide (40 < (t.Vanes.length : Int)) && decide ((t.Vanes.length : Int) ≤ 42)) = false := by
      rw [Bool.eq_false_iff]; simp only [ne_eq, Bool.or_eq_true, Bool.and_eq_true, decide_eq_true_eq]; exact hc
    rw [h1]; rfl
end Go.Gw
