/- LocatePlaces answers true. Condition: none. -/
import Derived.Test.YtgpapebgdnimfaaDoorGwLoc10
import Derived.Test.YtgpapebgdnimfaaDoorGwLawLocatePlaces
set_option maxRecDepth 4096
namespace Go.Gw
open Go
def tooE (t : LocateTrack) (i : Int) : Int := if 0 ≤ i ∧ i ≤ (nT t : Int) - 1 then 0 else 6
theorem nT_pos {t : LocateTrack} (h : Rt t) : 1 ≤ nT t := by
  have h1 := (nW_le h).1; have h2 := h.p1
  have : 1 * 1 ≤ nW t * t.PerVane.toNat := Nat.mul_le_mul h1 (by omega)
  unfold nT; omega
theorem ToothErr_ok {t : LocateTrack} (h : Rt t) (i : Int) : ref04_ToothErr_spec t i = some (tooE t i) := by
  have := nT_le h
  unfold ref04_ToothErr_spec tooE
  rw [rTeethOf_ok h]
  simp only [Option.bind_some, bwithin_ok]
  rw [w64_id (by omega)]
  by_cases hc : 0 ≤ i ∧ i ≤ (nT t : Int) - 1
  · simp [hc]
  · have hc' : (decide (0 ≤ i) && decide (i ≤ (nT t : Int) - 1)) = false := by rw [Bool.eq_false_iff]; simp only [ne_eq, Bool.and_eq_true, decide_eq_true_eq]; exact hc
    simp [hc, hc']
theorem PlacesOf_ok (t : LocateTrack) (i : Int) (ht : t.Vanes.length < 1073741824) : locate_PlacesOf_spec t i = some (if (chk t).2 = 0 then (if tooE t i = 0 then (plc t i, 0) else (⟨0, 0⟩, 6)) else (⟨0, 0⟩, (chk t).2)) := by
  unfold locate_PlacesOf_spec
  rw [open_ok t ht]
  simp only [Option.bind_some, eta_track]
  by_cases h : (chk t).2 = 0
  · have hR := chk_rt h
    have hn := nT_le hR
    simp only [h, decide_true, Bool.not_true, cond_false, if_true]
    rw [teeth_ok hR]
    simp only [Option.bind_some, within_ok]
    rw [w64_id (by omega)]
    by_cases hc : 0 ≤ i ∧ i ≤ (nT t : Int) - 1
    · have e : tooE t i = 0 := by unfold tooE; rw [if_pos hc]
      simp only [hc.1, hc.2, decide_true, Bool.and_self, Bool.not_true, cond_false, e, if_true]
      rw [places_ok hR (by omega) (by omega)]; rfl
    · have e : tooE t i ≠ 0 := by unfold tooE; rw [if_neg hc]; decide
      have hc' : (decide (0 ≤ i) && decide (i ≤ (nT t : Int) - 1)) = false := by rw [Bool.eq_false_iff]; simp only [ne_eq, Bool.and_eq_true, decide_eq_true_eq]; exact hc
      simp [hc', e]
  · simp [h]
/-- The tooth that has a place; below 0: none has. -/
def tooA (t : LocateTrack) (p : Int) : Int := if t.First ≤ p ∧ p ≤ t.First + nT t * t.Tooth - 1 then (p - t.First) / t.Tooth else -1
theorem nTT {t : LocateTrack} (h : Rt t) : 0 ≤ (nT t : Int) * t.Tooth ∧ (nT t : Int) * t.Tooth ≤ 480000 := by
  have := nT_le h; have := h.t1; have := h.t2
  refine ⟨Int.mul_nonneg (by omega) (by omega), ?_⟩
  have : (nT t : Int) * t.Tooth ≤ 480 * 1000 := Int.mul_le_mul (by omega) h.t2 (by omega) (by omega)
  omega
theorem ToothAt_ok (t : LocateTrack) (p : Int) (ht : t.Vanes.length < 1073741824) : locate_ToothAt_spec t p = some (if (chk t).2 = 0 then (if 0 ≤ tooA t p then (tooA t p, 0) else (0, 6)) else (0, (chk t).2)) := by
  unfold locate_ToothAt_spec
  rw [open_ok t ht]
  simp only [Option.bind_some, eta_track]
  by_cases h : (chk t).2 = 0
  · have hR := chk_rt h
    have hn := nTT hR
    have hf := hR.f1; have hf2 := hR.f2; have ht1 := hR.t1
    simp only [h, decide_true, Bool.not_true, cond_false, if_true]
    rw [teeth_ok hR]
    simp only [Option.bind_some, within_ok]
    rw [w64_id (x := (nT t : Int) * t.Tooth) (by omega), w64_id (x := t.First + (nT t : Int) * t.Tooth) (by omega), w64_id (x := t.First + (nT t : Int) * t.Tooth - 1) (by omega)]
    by_cases hc : t.First ≤ p ∧ p ≤ t.First + nT t * t.Tooth - 1
    · have hq : 0 ≤ (p - t.First) / t.Tooth := Int.ediv_nonneg (by omega) (by omega)
      have hq2 : (p - t.First) / t.Tooth ≤ p - t.First := Int.ediv_le_self _ (by omega)
      have e : tooA t p = (p - t.First) / t.Tooth := by unfold tooA; rw [if_pos hc]
      simp only [hc.1, hc.2, decide_true, Bool.and_self, Bool.not_true, cond_false]
      rw [e, if_pos hq, w64_id (x := p - t.First) (by omega), quo_ok (by omega), tdiv_pos (by omega), w64_id (by omega)]; rfl
    · have e : tooA t p = -1 := by unfold tooA; rw [if_neg hc]
      have hc' : (decide (t.First ≤ p) && decide (p ≤ t.First + (nT t : Int) * t.Tooth - 1)) = false := by rw [Bool.eq_false_iff]; simp only [ne_eq, Bool.and_eq_true, decide_eq_true_eq]; exact hc
      simp [hc', e]
  · simp [h]
theorem rToothAt_ok {t : LocateTrack} (h : Rt t) (p : Int) : ref04_ToothAt_spec t p = some (tooA t p) := by
  have hn := nT_le h; have hn2 := nTT h
  have hf := h.f1; have hf2 := h.f2; have ht1 := h.t1
  have inb : ∀ k : Nat, ((plc t k).Lo ≤ p ∧ p ≤ (plc t k).Hi) ↔ (t.First ≤ p ∧ (p - t.First) / t.Tooth = k) := by
    intro k
    unfold plc
    simp only
    constructor
    · rintro ⟨h1, h2⟩
      have h0 : 0 ≤ (k : Int) * t.Tooth := Int.mul_nonneg (by omega) (by omega)
      refine ⟨by omega, ?_⟩
      rw [Int.ediv_eq_iff_of_pos (by omega)]
      constructor
      · omega
      · omega
    · rintro ⟨h1, h2⟩
      rw [Int.ediv_eq_iff_of_pos (by omega)] at h2
      omega
  unfold ref04_ToothAt_spec
  have hs : ∀ k : Nat, k < nT t → ref04_ToothAt_s0 p t (k : Int) = if t.First ≤ p ∧ (p - t.First) / t.Tooth = k then some (.inr (.inl (k : Int))) else some (.inl ((k + 1 : Nat) : Int)) := by
    intro k hk
    unfold ref04_ToothAt_s0
    rw [rTeethOf_ok h, Option.bind_some, lt_nat hk, rPlacesOf_ok h (by omega) (by omega), w64n k (by omega)]
    simp only [Option.bind_some, cond_true, bwithin_ok]
    by_cases hc : (plc t k).Lo ≤ p ∧ p ≤ (plc t k).Hi
    · have hc2 := (inb k).1 hc
      rw [if_pos hc2]; simp [hc]
    · have hc2 : ¬ (t.First ≤ p ∧ (p - t.First) / t.Tooth = k) := fun hh => hc ((inb k).2 hh)
      have hc' : (decide ((plc t k).Lo ≤ p) && decide (p ≤ (plc t k).Hi)) = false := by rw [Bool.eq_false_iff]; simp only [ne_eq, Bool.and_eq_true, decide_eq_true_eq]; exact hc
      rw [if_neg hc2, hc']; rfl
  by_cases hc : t.First ≤ p ∧ p ≤ t.First + nT t * t.Tooth - 1
  · have e : tooA t p = (p - t.First) / t.Tooth := by unfold tooA; rw [if_pos hc]
    have hq : 0 ≤ (p - t.First) / t.Tooth := Int.ediv_nonneg (by omega) (by omega)
    obtain ⟨k, hk⟩ : ∃ k : Nat, (p - t.First) / t.Tooth = k := ⟨((p - t.First) / t.Tooth).toNat, by omega⟩
    have hkT : k < nT t := by
      have : (p - t.First) / t.Tooth < nT t := Int.ediv_lt_of_lt_mul (by omega) (by omega)
      omega
    have hl := loop_for (step := ref04_ToothAt_s0 p t) (o := .inl (k : Int)) (fun j => (j : Int)) k (fun j hj => by rw [hs j (by omega), if_neg (by rintro ⟨_, h2⟩; omega)]) (by rw [hs k hkT, if_pos ⟨hc.1, hk⟩])
    rw [e, hk]
    rw [show (0 : Int) = ((0 : Nat) : Int) from rfl, hl]; rfl
  · have e : tooA t p = -1 := by unfold tooA; rw [if_neg hc]
    have hl := loop_for (step := ref04_ToothAt_s0 p t) (o := .inr ()) (fun j => (j : Int)) (nT t) (fun j hj => by
      rw [hs j hj, if_neg]
      rintro ⟨h1, h2⟩
      apply hc
      have h3 := (inb j).2 ⟨h1, h2⟩
      unfold plc at h3
      have h4 : ((j : Int) + 1) * t.Tooth ≤ nT t * t.Tooth := Int.mul_le_mul_of_nonneg_right (by omega) (by omega)
      rw [Int.add_mul] at h4
      simp only at h3
      omega) (by
      unfold ref04_ToothAt_s0
      rw [rTeethOf_ok h, Option.bind_some, lt_nat_no]; rfl)
    rw [e, show (0 : Int) = ((0 : Nat) : Int) from rfl, hl]; rfl
theorem LocatePlaces_true (t : LocateTrack) (p i : Int) : law04_LocatePlaces_spec t p i = some true := by
  unfold law04_LocatePlaces_spec law04_Short_spec
  rw [awake_ok]
  simp only [Option.bind_some, Bool.not_true, cond_false]
  by_cases hc : ((t.Vanes.length : Int) ≤ 16) ∨ (40 < (t.Vanes.length : Int)) ∧ ((t.Vanes.length : Int) ≤ 42)
  · have h1 : (decide ((t.Vanes.length : Int) ≤ 16) || decide (40 < (t.Vanes.length : Int)) && decide ((t.Vanes.length : Int) ≤ 42)) = true := by
      simp only [Bool.or_eq_true, Bool.and_eq_true, decide_eq_true_eq]; exact hc
    rw [h1, Bool.not_true, cond_false]
    have ht : t.Vanes.length < 1073741824 := by omega
    rw [Copy_ok t ht]
    simp only [Option.bind_some]
    rw [ToothAt_ok t p ht, PlacesOf_ok t i ht, TrackErr_ok t ht]
    simp only [Option.bind_some]
    by_cases h : (chk t).2 = 0
    · have hR := chk_rt h
      have hnT := nT_le hR
      simp only [h, if_true, decide_true, Bool.not_true, cond_false]
      rw [rToothAt_ok hR, ToothErr_ok hR]
      simp only [Option.bind_some]
      have e1 : (decide (0 ≤ tooA t p) && (!decide ((if 0 ≤ tooA t p then (tooA t p, (0 : Int)) else (0, 6)).2 = 0) || !decide ((if 0 ≤ tooA t p then (tooA t p, (0 : Int)) else (0, 6)).1 = tooA t p)) || decide (tooA t p < 0) && (!decide ((if 0 ≤ tooA t p then (tooA t p, (0 : Int)) else (0, 6)).2 = 6) || !decide ((if 0 ≤ tooA t p then (tooA t p, (0 : Int)) else (0, 6)).1 = 0))) = false := by
        by_cases hp : 0 ≤ tooA t p
        · have : ¬ tooA t p < 0 := by omega
          simp [hp, this]
        · have : tooA t p < 0 := by omega
          simp [hp, this]
      rw [e1, cond_false]
      by_cases hw : tooE t i = 0
      · have hi : 0 ≤ i ∧ i ≤ (nT t : Int) - 1 := by
          unfold tooE at hw; split at hw
          · assumption
          · cases hw
        simp only [hw, if_true, decide_true, Bool.not_true, cond_false, cond_true]
        rw [rPlacesOf_ok hR (by omega) (by omega)]
        simp
      · have e : tooE t i = 6 := by unfold tooE at hw ⊢; split at hw; exact absurd rfl hw; rw [if_neg (by assumption)]
        simp [e]
    · simp [h]
  · have h1 : (decide ((t.Vanes.length : Int) ≤ 16) || decide (40 < (t.Vanes.length : Int)) && decide ((t.Vanes.length : Int) ≤ 42)) = false := by
      rw [Bool.eq_false_iff]; simp only [ne_eq, Bool.or_eq_true, Bool.and_eq_true, decide_eq_true_eq]; exact hc
    rw [h1]; rfl
end Go.Gw
