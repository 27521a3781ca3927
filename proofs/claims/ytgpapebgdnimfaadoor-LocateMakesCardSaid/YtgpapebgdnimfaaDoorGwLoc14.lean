/- The two windows that differ least: what both texts compute. Condition: the track is right. -/
import Derived.Test.YtgpapebgdnimfaaDoorGwLoc10
import Derived.Test.YtgpapebgdnimfaaDoorGwFxDist
set_option maxRecDepth 4096
namespace Go.Gw
open Go
/-- At how many positions two windows differ. -/
def dP (t : LocateTrack) (i j : Nat) : Int := cnt (winV t i) (winV t j) t.Window.toNat
theorem dP_comm (t : LocateTrack) (i j : Nat) : dP t i j = dP t j i := cnt_comm _ _ _
theorem dP_bound {t : LocateTrack} (h : Rt t) (i j : Nat) : 0 ≤ dP t i j ∧ dP t i j ≤ 12 := by
  have := cnt_bound (winV t i) (winV t j) t.Window.toNat
  have := h.w1; have := h.w2
  unfold dP; omega
theorem wdP_ok {t : LocateTrack} (h : Rt t) (i j : Nat) :
    locate_window_differ_spec (arr12 fun k => if k < t.Window.toNat then winV t i k else 0) (arr12 fun k => if k < t.Window.toNat then winV t j k else 0) = some (dP t i j) := by
  rw [wdiffer_ok]
  have hw := h.w2
  have hw1 := h.w1
  rw [cnt_tail (n := t.Window.toNat) (by omega)]
  · unfold dP
    rw [cnt_congr (f' := winV t i) (g' := winV t j)]
    intro j hj; simp [hj]
  · intro j h1 _
    rw [if_neg (by omega), if_neg (by omega)]; rfl
theorem rdP_ok {t : LocateTrack} (h : Rt t) (i j : Nat) : ref04_Differ_spec (winL t i) (winL t j) = some (dP t i j) := by
  have hw := h.w2
  have hw1 := h.w1
  rw [rDiffer_ok _ _ (by rw [winL_len]; omega) (by rw [winL_len, winL_len]; omega), winL_len]
  unfold dP
  rw [cnt_congr (f' := winV t i) (g' := winV t j)]
  intro j hj; exact ⟨winL_get hj, winL_get hj⟩
theorem Cmp_ok (x y : Int) : cmp_Compare_int_spec x y = some (if x < y then -1 else if y < x then 1 else 0) := by
  unfold cmp_Compare_int_spec cmp_isNaN_int_spec
  simp only [decide_true, Bool.not_true, Option.bind_some, cond_false]
  by_cases h1 : x < y
  · simp [h1]
  · by_cases h2 : y < x
    · simp [h1, h2]
    · simp [h1, h2]
theorem Cmp2_ok (a b c d : Int) : ∃ r, slices_Compare_int_spec [a, b] [c, d] = some r ∧ (r < 0 ↔ a < c ∨ (a = c ∧ b < d)) := by
  unfold slices_Compare_int_spec
  have s0 : slices_Compare_int_s0 [a, b] [c, d] 0 = some (if a < c then .inr (.inl (-1)) else if c < a then .inr (.inl 1) else .inl 1) := by
    unfold slices_Compare_int_s0
    have e1 : idx [a, b] 0 = some a := rfl
    have e2 : idx [c, d] 0 = some c := rfl
    rw [e1, e2]
    simp only [Option.bind_some, Cmp_ok]
    by_cases h1 : a < c
    · simp [h1]
    · by_cases h2 : c < a
      · simp [h1, h2]
      · simp [h1, h2, w64_id]
  have s1 : slices_Compare_int_s0 [a, b] [c, d] 1 = some (if b < d then .inr (.inl (-1)) else if d < b then .inr (.inl 1) else .inl 2) := by
    unfold slices_Compare_int_s0
    have e1 : idx [a, b] 1 = some b := rfl
    have e2 : idx [c, d] 1 = some d := rfl
    rw [e1, e2]
    simp only [Option.bind_some, Cmp_ok]
    by_cases h1 : b < d
    · simp [h1]
    · by_cases h2 : d < b
      · simp [h1, h2]
      · simp [h1, h2, w64_id]
  have s2 : slices_Compare_int_s0 [a, b] [c, d] 2 = some (.inr (.inr ())) := by
    unfold slices_Compare_int_s0
    simp
  by_cases h1 : a < c
  · rw [if_pos h1] at s0
    rw [loop_inr s0]
    exact ⟨-1, rfl, by simp [h1]⟩
  · by_cases h2 : c < a
    · rw [if_neg h1, if_pos h2] at s0
      rw [loop_inr s0]
      exact ⟨1, rfl, by omega⟩
    · rw [if_neg h1, if_neg h2] at s0
      rw [loop_inl s0]
      by_cases h3 : b < d
      · rw [if_pos h3] at s1
        rw [loop_inr s1]
        exact ⟨-1, rfl, by omega⟩
      · by_cases h4 : d < b
        · rw [if_neg h3, if_pos h4] at s1
          rw [loop_inr s1]
          exact ⟨1, rfl, by omega⟩
        · rw [if_neg h3, if_neg h4] at s1
          rw [loop_inl s1, loop_inr s2]
          exact ⟨0, by simp [jn0], by omega⟩

/-- The least of the pairs in S, by distance, then by place. -/
def Best (D : Nat → Nat → Int) (S : Nat → Nat → Prop) (f : Bool) (d p q : Int) : Prop :=
  (f = false ∧ d = 0 ∧ p = 0 ∧ q = 0 ∧ ∀ a b, ¬ S a b) ∨
  (f = true ∧ ∃ a b : Nat, S a b ∧ d = D a b ∧ p = a ∧ q = b ∧ ∀ a' b', S a' b' → d < D a' b' ∨ (d = D a' b' ∧ (a < a' ∨ (a = a' ∧ b ≤ b'))))
theorem Best.congr {D : Nat → Nat → Int} {S S' : Nat → Nat → Prop} {f : Bool} {d p q : Int} (h : Best D S f d p q) (e : ∀ a b, S a b ↔ S' a b) : Best D S' f d p q := by
  have : S = S' := by funext a b; exact propext (e a b)
  exact this ▸ h
theorem Best.unique {D : Nat → Nat → Int} {S : Nat → Nat → Prop} {f f' : Bool} {d d' p p' q q' : Int} (h : Best D S f d p q) (h' : Best D S f' d' p' q') : f = f' ∧ d = d' ∧ p = p' ∧ q = q' := by
  rcases h with ⟨rfl, rfl, rfl, rfl, h⟩ | ⟨rfl, a, b, h1, rfl, rfl, rfl, h2⟩ <;> rcases h' with ⟨rfl, rfl, rfl, rfl, h'⟩ | ⟨rfl, a', b', h1', rfl, rfl, rfl, h2'⟩
  · exact ⟨rfl, rfl, rfl, rfl⟩
  · exact absurd h1' (h _ _)
  · exact absurd h1 (h' _ _)
  · have k1 := h2 _ _ h1'
    have k2 := h2' _ _ h1
    refine ⟨rfl, ?_, ?_, ?_⟩ <;> omega
theorem Best.add {D : Nat → Nat → Int} {S : Nat → Nat → Prop} {f : Bool} {d p q : Int} (h : Best D S f d p q) (i j : Nat) :
    ((f = false ∨ D i j < d ∨ (D i j = d ∧ ((i : Int) < p ∨ ((i : Int) = p ∧ (j : Int) < q)))) → Best D (fun a b => S a b ∨ (a = i ∧ b = j)) true (D i j) i j) ∧
    (¬ (f = false ∨ D i j < d ∨ (D i j = d ∧ ((i : Int) < p ∨ ((i : Int) = p ∧ (j : Int) < q)))) → Best D (fun a b => S a b ∨ (a = i ∧ b = j)) f d p q) := by
  constructor
  · intro hc
    refine .inr ⟨rfl, i, j, .inr ⟨rfl, rfl⟩, rfl, rfl, rfl, ?_⟩
    rintro a' b' (hs | ⟨rfl, rfl⟩)
    · rcases h with ⟨_, _, _, _, h⟩ | ⟨rfl, a, b, h1, rfl, rfl, rfl, h2⟩
      · exact absurd hs (h _ _)
      · have := h2 _ _ hs
        rcases hc with hc | hc | hc
        · cases hc
        · omega
        · omega
    · omega
  · intro hc
    rcases h with ⟨rfl, _⟩ | ⟨rfl, a, b, h1, rfl, rfl, rfl, h2⟩
    · exact absurd (.inl rfl) hc
    · refine .inr ⟨rfl, a, b, .inl h1, rfl, rfl, rfl, ?_⟩
      rintro a' b' (hs | ⟨rfl, rfl⟩)
      · exact h2 _ _ hs
      · omega
theorem Best.bnd {t : LocateTrack} (hR : Rt t) {S : Nat → Nat → Prop} {f : Bool} {d p q : Int} (h : Best (dP t) S f d p q) : 0 ≤ d ∧ d ≤ 12 := by
  rcases h with ⟨_, rfl, _⟩ | ⟨_, a, b, _, rfl, _⟩
  · omega
  · exact dP_bound hR a b
/-- The pairs before: by the second, then by the first. -/
def PS (j i : Nat) (a b : Nat) : Prop := a < b ∧ (b < j ∨ (b = j ∧ a < i))
/-- The pairs before: by the first, then by the second. -/
def RS (n i j : Nat) (a b : Nat) : Prop := a < b ∧ b < n ∧ (a < i ∨ (a = i ∧ b < j))
theorem dist0_ok {t : LocateTrack} (h : Rt t) (j : Nat) (hj : j < nW t) {f : Bool} {d p q : Int} (hB : Best (dP t) (PS j 0) f d p q) :
    Runs (loop (locate_track_distance_s0 ⟨t⟩ j) (f, 0, d, p, q)) fun o => Best (dP t) (PS (j + 1) 0) o.1 o.2.1 o.2.2.1 o.2.2.2 := by
  have hn := nW_le h
  refine Runs.loop (fun s => ∃ i : Nat, s.2.1 = i ∧ i ≤ j ∧ Best (dP t) (PS j i) s.1 s.2.2.1 s.2.2.2.1 s.2.2.2.2) (fun s => j - s.2.1.toNat) ⟨0, rfl, by omega, hB⟩ ?_
  rintro ⟨f, i, d, p, q⟩ ⟨k, hi, hk, hB⟩
  simp only at hi hB
  subst hi
  unfold locate_track_distance_s0
  simp only
  by_cases hc : k < j
  · rw [lt_nat hc, cond_true, at_ok h j (by omega), at_ok h k (by omega), Option.bind_some, Option.bind_some, wdP_ok h, Option.bind_some, dP_comm t j k]
    obtain ⟨r, hr, hr2⟩ := Cmp2_ok (k : Int) (j : Int) p q
    have hadd := hB.add k j
    rw [hr, w64n k (by omega)]
    have eS : ∀ a b, (PS j k a b ∨ (a = k ∧ b = j)) ↔ PS j (k + 1) a b := by intro a b; unfold PS; omega
    by_cases hu : f = false ∨ dP t k j < d ∨ (dP t k j = d ∧ ((k : Int) < p ∨ ((k : Int) = p ∧ (j : Int) < q)))
    · have hB' := (hadd.1 hu).congr eS
      refine ⟨.inl (true, ((k + 1 : Nat) : Int), dP t k j, (k : Int), (j : Int)), ?_, ⟨k + 1, rfl, by omega, hB'⟩, by simp only; omega⟩
      cases f
      · simp
      · by_cases h1 : dP t k j < d
        · simp [h1]
        · have h2 : dP t k j = d := by rcases hu with hu | hu | hu; · cases hu
                                       · exact absurd hu h1
                                       · exact hu.1
          have h3 : r < 0 := hr2.2 (by rcases hu with hu | hu | hu; · cases hu
                                       · exact absurd hu h1
                                       · exact hu.2)
          simp [h2, h3]
    · have hB' := (hadd.2 hu).congr eS
      refine ⟨.inl (f, ((k + 1 : Nat) : Int), d, p, q), ?_, ⟨k + 1, rfl, by omega, hB'⟩, by simp only; omega⟩
      cases f
      · exact absurd (.inl rfl) hu
      · have h1 : ¬ dP t k j < d := fun h => hu (.inr (.inl h))
        by_cases h2 : dP t k j = d
        · have h3 : ¬ r < 0 := fun h => hu (.inr (.inr ⟨h2, hr2.1 h⟩))
          simp [h2, h3]
        · simp [h1, h2]
  · obtain rfl : k = j := by omega
    rw [lt_nat_no]
    refine ⟨_, rfl, hB.congr fun a b => ?_⟩
    unfold PS; omega
theorem dist_ok {t : LocateTrack} (h : Rt t) : ∃ f d p q, locate_track_distance_spec ⟨t⟩ = some (⟨d, ⟨p, q⟩⟩, f) ∧ Best (dP t) (PS (nW t) 0) f d p q := by
  have hn := nW_le h
  unfold locate_track_distance_spec
  rw [windows_ok h, Option.bind_some]
  have hR : Runs (loop (locate_track_distance_s1 ⟨t⟩ (nW t : Int)) (false, 0, 0, 0, 0)) fun o => Best (dP t) (PS (nW t) 0) o.1 o.2.1 o.2.2.1 o.2.2.2 := by
    refine Runs.loop (fun s => ∃ j : Nat, s.2.1 = j ∧ j ≤ nW t ∧ Best (dP t) (PS j 0) s.1 s.2.2.1 s.2.2.2.1 s.2.2.2.2) (fun s => nW t - s.2.1.toNat) ⟨0, rfl, by omega, .inl ⟨rfl, rfl, rfl, rfl, fun a b => by unfold PS; omega⟩⟩ ?_
    rintro ⟨f, i, d, p, q⟩ ⟨j, hi, hj, hB⟩
    simp only at hi hB
    subst hi
    unfold locate_track_distance_s1
    simp only
    by_cases hc : j < nW t
    · rw [lt_nat hc, cond_true]
      obtain ⟨⟨f', d', p', q'⟩, ho, hB'⟩ := dist0_ok h j hc hB
      rw [ho, Option.bind_some, w64n j (by omega)]
      exact ⟨_, rfl, ⟨j + 1, rfl, by omega, hB'⟩, by simp only; omega⟩
    · obtain rfl : j = nW t := by omega
      rw [lt_nat_no]
      exact ⟨_, rfl, hB⟩
  obtain ⟨⟨f, d, p, q⟩, ho, hB⟩ := hR
  rw [ho]
  exact ⟨f, d, p, q, rfl, hB⟩
theorem rdist0_ok {t : LocateTrack} (h : Rt t) (i : Nat) (hi : i < nW t) {f : Bool} {d p q : Int} (hB : Best (dP t) (RS (nW t) i 0) f d p q) :
    Runs (loop (ref04_DistanceOf_s0 t i) (d, f, w64 ((i : Int) + 1), p, q)) fun o => Best (dP t) (RS (nW t) (i + 1) 0) o.2.1 o.1 o.2.2.1 o.2.2.2 := by
  have hn := nW_le h
  rw [w64n i (by omega)]
  refine Runs.loop (fun s => ∃ j : Nat, s.2.2.1 = j ∧ i < j ∧ j ≤ nW t ∧ Best (dP t) (RS (nW t) i j) s.2.1 s.1 s.2.2.2.1 s.2.2.2.2) (fun s => nW t - s.2.2.1.toNat) ⟨i + 1, rfl, by omega, by omega, hB.congr fun a b => by unfold RS; omega⟩ ?_
  rintro ⟨d, f, x, p, q⟩ ⟨k, hx, hik, hk, hB⟩
  simp only at hx hB
  subst hx
  unfold ref04_DistanceOf_s0
  simp only
  rw [rWindowsOf_ok h, Option.bind_some]
  by_cases hc : k < nW t
  · rw [lt_nat hc, cond_true, WindowAt_ok h i (by omega), WindowAt_ok h k (by omega), Option.bind_some, Option.bind_some, rdP_ok h, Option.bind_some, w64n k (by omega)]
    have hadd := hB.add i k
    have eS : ∀ a b, (RS (nW t) i k a b ∨ (a = i ∧ b = k)) ↔ RS (nW t) i (k + 1) a b := by intro a b; unfold RS; omega
    have late : f = true → ¬ ((i : Int) < p ∨ ((i : Int) = p ∧ (k : Int) < q)) := by
      intro hf
      rcases hB with ⟨rfl, _⟩ | ⟨_, a, b, h1, _, rfl, rfl, _⟩
      · cases hf
      · unfold RS at h1; omega
    by_cases hu : f = false ∨ dP t i k < d
    · have hB' := (hadd.1 (by rcases hu with hu | hu; · exact .inl hu
                              · exact .inr (.inl hu))).congr eS
      refine ⟨.inl (dP t i k, true, ((k + 1 : Nat) : Int), (i : Int), (k : Int)), ?_, ⟨k + 1, rfl, by omega, by omega, hB'⟩, by simp only; omega⟩
      rcases hu with rfl | hu
      · simp
      · simp [hu]
    · have hf : f = true := by cases f; · exact absurd (.inl rfl) hu
                               · rfl
      have hB' := (hadd.2 (by
        rintro (h1 | h1 | h1)
        · exact hu (.inl h1)
        · exact hu (.inr h1)
        · exact late hf h1.2)).congr eS
      refine ⟨.inl (d, f, ((k + 1 : Nat) : Int), p, q), ?_, ⟨k + 1, rfl, by omega, by omega, hB'⟩, by simp only; omega⟩
      have : ¬ dP t i k < d := fun h => hu (.inr h)
      simp [hf, this]
  · obtain rfl : k = nW t := by omega
    rw [lt_nat_no]
    refine ⟨_, rfl, hB.congr fun a b => ?_⟩
    unfold RS; omega
theorem rdist_ok {t : LocateTrack} (h : Rt t) : ∃ f d p q, ref04_DistanceOf_spec t = some (d, ⟨p, q⟩, f) ∧ Best (dP t) (PS (nW t) 0) f d p q := by
  have hn := nW_le h
  unfold ref04_DistanceOf_spec
  have hR : Runs (loop (ref04_DistanceOf_s1 t) (0, false, 0, 0, 0)) fun o => Best (dP t) (RS (nW t) (nW t) 0) o.2.1 o.1 o.2.2.1 o.2.2.2 := by
    refine Runs.loop (fun s => ∃ j : Nat, s.2.2.1 = j ∧ j ≤ nW t ∧ Best (dP t) (RS (nW t) j 0) s.2.1 s.1 s.2.2.2.1 s.2.2.2.2) (fun s => nW t - s.2.2.1.toNat) ⟨0, rfl, by omega, .inl ⟨rfl, rfl, rfl, rfl, fun a b => by unfold RS; omega⟩⟩ ?_
    rintro ⟨d, f, i, p, q⟩ ⟨j, hi, hj, hB⟩
    simp only at hi hB
    subst hi
    unfold ref04_DistanceOf_s1
    simp only
    rw [rWindowsOf_ok h, Option.bind_some]
    by_cases hc : j < nW t
    · rw [lt_nat hc, cond_true]
      obtain ⟨⟨d', f', p', q'⟩, ho, hB'⟩ := rdist0_ok h j hc hB
      rw [ho, Option.bind_some, w64n j (by omega)]
      exact ⟨_, rfl, ⟨j + 1, rfl, by omega, hB'⟩, by simp only; omega⟩
    · obtain rfl : j = nW t := by omega
      rw [lt_nat_no]
      exact ⟨_, rfl, hB⟩
  obtain ⟨⟨d, f, p, q⟩, ho, hB⟩ := hR
  rw [ho]
  refine ⟨f, d, p, q, rfl, hB.congr fun a b => ?_⟩
  unfold RS PS; omega
/-- Both texts find the same. -/
theorem dist_same {t : LocateTrack} (h : Rt t) : ∃ f d p q, locate_track_distance_spec ⟨t⟩ = some (⟨d, ⟨p, q⟩⟩, f) ∧ ref04_DistanceOf_spec t = some (d, ⟨p, q⟩, f) ∧ 0 ≤ d ∧ d ≤ 12 ∧ Best (dP t) (PS (nW t) 0) f d p q := by
  obtain ⟨f, d, p, q, h1, h2⟩ := dist_ok h
  obtain ⟨f', d', p', q', h1', h2'⟩ := rdist_ok h
  obtain ⟨rfl, rfl, rfl, rfl⟩ := h2.unique h2'
  have := h2.bnd h
  exact ⟨f, d, p, q, h1, h1', this.1, this.2, h2⟩
end Go.Gw
