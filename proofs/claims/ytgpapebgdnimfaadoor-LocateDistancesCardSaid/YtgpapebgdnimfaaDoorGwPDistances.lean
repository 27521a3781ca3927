/- LocateDistances answers true. Condition: none. -/
import Derived.Test.YtgpapebgdnimfaaDoorGwLoc14
import Derived.Test.YtgpapebgdnimfaaDoorGwLawLocateDistances
set_option maxRecDepth 4096
namespace Go.Gw
open Go
theorem isSeenL_ok (v : Int) : locate_isSeen_spec v = some (isS v) := rfl
theorem isSeenR_ok (v : Int) : ref04_isSeen_spec v = some (isS v) := by
  unfold ref04_isSeen_spec
  rw [bwithin_ok, Option.bind_some, isS_w]
def good (a b : List Int) (k : Nat) : Prop := isS (a.getD k 0) = true ∧ isS (b.getD k 0) = true
theorem dd_sum {x y : Int} (hx : isS x = true) (hy : isS y = true) : decide (w64 (x + y) = 1) = dd x y := by
  have h1 : x = 0 ∨ x = 1 ∨ x = 2 := by simpa [isS, isB, or_assoc] using hx
  have h2 : y = 0 ∨ y = 1 ∨ y = 2 := by simpa [isS, isB, or_assoc] using hy
  rcases h1 with rfl | rfl | rfl <;> rcases h2 with rfl | rfl | rfl <;> decide
theorem differ0_ok {a b : List Int} (hl : a.length ≤ 40) (hb : b.length = a.length) : Runs (loop (locate_Differ_s0 a b) (0, 0)) fun o =>
    (o = .inl (0, 15) ∧ ∃ k, k < a.length ∧ ¬ good a b k) ∨ (o = .inr (cnt (fun j => a.getD j 0) (fun j => b.getD j 0) a.length) ∧ ∀ k, k < a.length → good a b k) := by
  refine Runs.loop (fun s => ∃ k : Nat, s.2 = k ∧ k ≤ a.length ∧ s.1 = cnt (fun j => a.getD j 0) (fun j => b.getD j 0) k ∧ ∀ j, j < k → good a b j) (fun s => a.length - s.2.toNat) ⟨0, rfl, by omega, rfl, fun j hj => by omega⟩ ?_
  rintro ⟨n, i⟩ ⟨k, hi, hk, hn, hg⟩
  simp only at hi hn
  subst hi
  unfold locate_Differ_s0
  simp only
  have hcb := cnt_bound (fun j => a.getD j 0) (fun j => b.getD j 0) k
  by_cases hc : k < a.length
  · rw [lt_nat hc, cond_true, idx_nat hc, idx_nat (xs := b) (by omega)]
    simp only [isSeenL_ok, Option.bind_some]
    have ga : a.getD k 0 = a[k] := getD_in hc
    have gb : b.getD k 0 = b[k] := getD_in (by omega)
    cases h1 : isS a[k] with
    | false =>
      refine ⟨_, rfl, .inl ⟨rfl, k, hc, fun h => ?_⟩⟩
      rw [good, ga, h1] at h; cases h.1
    | true =>
      simp only [Bool.not_true, Bool.not_false, cond_true, Option.bind_some, Bool.false_or]
      cases h2 : isS b[k] with
      | false =>
        refine ⟨_, rfl, .inl ⟨rfl, k, hc, fun h => ?_⟩⟩
        rw [good, gb, h2] at h; cases h.2
      | true =>
        simp only [Bool.not_true, cond_false]
        rw [dd_sum h1 h2, w64n k (by omega)]
        have hs := cnt_succ (fun j => a.getD j 0) (fun j => b.getD j 0) k
        simp only [ga, gb] at hs
        have hgk : ∀ j, j < k + 1 → good a b j := by
          intro j hj
          rcases Nat.lt_or_ge j k with h | h
          · exact hg j h
          · obtain rfl : j = k := by omega
            exact ⟨by rw [ga]; exact h1, by rw [gb]; exact h2⟩
        cases hd : dd a[k] b[k] with
        | true =>
          rw [hd, if_pos rfl] at hs
          refine ⟨_, rfl, ⟨k + 1, rfl, by omega, ?_, hgk⟩, by simp only; omega⟩
          simp only
          rw [hs, ← hn, w64_id (by omega)]
        | false =>
          rw [hd, if_neg (by simp)] at hs
          refine ⟨_, rfl, ⟨k + 1, rfl, by omega, ?_, hgk⟩, by simp only; omega⟩
          simp only
          rw [hs, hn]
  · obtain rfl : k = a.length := by omega
    rw [lt_nat_no]
    refine ⟨_, rfl, .inr ⟨?_, hg⟩⟩
    rw [hn]
theorem differE0_ok {a b : List Int} (hl : a.length ≤ 40) (hb : b.length = a.length) : Runs (loop (ref04_DifferErr_s0 a b) 0) fun o =>
    (o = .inl 15 ∧ ∃ k, k < a.length ∧ ¬ good a b k) ∨ (o = .inr () ∧ ∀ k, k < a.length → good a b k) := by
  refine Runs.loop (fun s => ∃ k : Nat, s = k ∧ k ≤ a.length ∧ ∀ j, j < k → good a b j) (fun s => a.length - s.toNat) ⟨0, rfl, by omega, fun j hj => by omega⟩ ?_
  rintro i ⟨k, hi, hk, hg⟩
  subst hi
  unfold ref04_DifferErr_s0
  by_cases hc : k < a.length
  · rw [lt_nat hc, cond_true, idx_nat hc, idx_nat (xs := b) (by omega)]
    simp only [isSeenR_ok, Option.bind_some]
    have ga : a.getD k 0 = a[k] := getD_in hc
    have gb : b.getD k 0 = b[k] := getD_in (by omega)
    cases h1 : isS a[k] with
    | false =>
      refine ⟨_, rfl, .inl ⟨rfl, k, hc, fun h => ?_⟩⟩
      rw [good, ga, h1] at h; cases h.1
    | true =>
      simp only [Bool.not_true, Bool.not_false, cond_true, Option.bind_some, Bool.false_or]
      cases h2 : isS b[k] with
      | false =>
        refine ⟨_, rfl, .inl ⟨rfl, k, hc, fun h => ?_⟩⟩
        rw [good, gb, h2] at h; cases h.2
      | true =>
        simp only [Bool.not_true, cond_false]
        rw [w64n k (by omega)]
        refine ⟨_, rfl, ⟨k + 1, rfl, by omega, ?_⟩, by simp only; omega⟩
        intro j hj
        rcases Nat.lt_or_ge j k with h | h
        · exact hg j h
        · obtain rfl : j = k := by omega
          exact ⟨by rw [ga]; exact h1, by rw [gb]; exact h2⟩
  · obtain rfl : k = a.length := by omega
    rw [lt_nat_no]
    exact ⟨_, rfl, .inr ⟨rfl, hg⟩⟩
theorem differs_ok (a b : List Int) (ha : a.length ≤ 42) : (∃ e, e ≠ 0 ∧ locate_Differ_spec a b = some (0, e) ∧ ref04_DifferErr_spec a b = some e) ∨
    (∃ n, locate_Differ_spec a b = some (n, 0) ∧ ref04_DifferErr_spec a b = some 0 ∧ ref04_Differ_spec a b = some n) := by
  unfold locate_Differ_spec ref04_DifferErr_spec
  simp only [unless_ok, Option.bind_some]
  rw [first_ok _ (by simp)]
  simp only [Option.bind_some]
  by_cases h1 : 40 < (a.length : Int)
  · have h1' : ¬ (a.length : Int) ≤ 40 := by omega
    exact .inl ⟨8, by decide, by simp only [frst, h1', decide_false, cond_false]; rfl, by simp [h1]⟩
  · have h1' : (a.length : Int) ≤ 40 := by omega
    by_cases h2 : b.length = a.length
    · have h2' : (a.length : Int) = (b.length : Int) := by omega
      have h3 : ¬ 40 < (b.length : Int) := by omega
      have h3' : (b.length : Int) ≤ 40 := by omega
      simp only [frst, h3, h3', h2', decide_true, decide_false, cond_true, cond_false, if_true, Bool.not_true]
      obtain ⟨o, ho, hq⟩ := differ0_ok (by omega) h2
      obtain ⟨o', ho', hq'⟩ := differE0_ok (by omega) h2
      rw [ho, ho']
      rcases hq with ⟨rfl, k, hk, hb⟩ | ⟨rfl, hg⟩
      · rcases hq' with ⟨rfl, _⟩ | ⟨_, hg'⟩
        · exact .inl ⟨15, by decide, rfl, rfl⟩
        · exact absurd (hg' k hk) hb
      · rcases hq' with ⟨_, k, hk, hb⟩ | ⟨rfl, _⟩
        · exact absurd (hg k hk) hb
        · exact .inr ⟨_, rfl, rfl, rDiffer_ok a b (by omega) (by omega)⟩
    · have h2' : ¬ (a.length : Int) = (b.length : Int) := by omega
      have h2'' : ¬ (b.length : Int) = (a.length : Int) := by omega
      exact .inl ⟨10, by decide, by simp only [frst, h1', h2', decide_true, decide_false, cond_true, cond_false, if_true]; rfl, by simp only [h1, h2'', decide_false, cond_false, Bool.not_false, cond_true]⟩
theorem LocateDistances_true (t : LocateTrack) (a b : List Int) : law04_LocateDistances_spec t a b = some true := by
  unfold law04_LocateDistances_spec law04_Short_spec
  rw [awake_ok]
  simp only [Option.bind_some, Bool.not_true, cond_false]
  cases hc : (((!(decide ((t.Vanes.length : Int) ≤ 16) || (decide (40 < (t.Vanes.length : Int)) && decide ((t.Vanes.length : Int) ≤ 42)))) || ((decide (16 < (a.length : Int))) && (decide ((a.length : Int) ≤ 40)))) || (decide (42 < (a.length : Int)))) || (decide (42 < (b.length : Int))) with
  | true => rfl
  | false =>
    have hb2 : b.length ≤ 42 := by
      have := hc
      simp only [Bool.or_eq_false_iff, decide_eq_false_iff_not] at this
      omega
    have ha2 : a.length ≤ 42 := by
      have := hc
      simp only [Bool.or_eq_false_iff, decide_eq_false_iff_not] at this
      omega
    have ht : t.Vanes.length < 1073741824 := by
      have := hc
      simp only [Bool.or_eq_false_iff, Bool.not_eq_false'] at this
      have := this.1.1.1
      simp only [Bool.or_eq_true, Bool.and_eq_true, decide_eq_true_eq] at this
      omega
    simp only [cond_false]
    rw [CopyInts_ok a (by omega), CopyInts_ok b (by omega), Copy_ok t ht, TrackErr_ok t ht]
    simp only [Option.bind_some]
    unfold locate_DistanceOf_spec
    rw [open_ok t ht]
    simp only [Option.bind_some, unless_ok]
    have key : (∃ v, ((bif !decide ((chk t).2 = 0) then some ((0 : Int), (⟨0, 0⟩ : Arr2_Int), (chk t).2)
        else (locate_track_distance_spec ⟨⟨t.Vanes, t.Window, t.Tooth, t.PerVane, t.First, t.Modulus, t.Slack, t.Errors, t.Round⟩⟩).bind fun r70 => some (r70.1.distance, (⟨r70.1.pair.e0, r70.1.pair.e1⟩ : Arr2_Int), bif r70.2 then (0 : Int) else 12)) : Option (Int × Arr2_Int × Int)) = some v ∧
        (bif !decide ((chk t).2 = 0) then some (decide (v.2.2 = (chk t).2) && decide (v.1 = 0) && decide ((Arr2_Int.mk v.2.1.e0 v.2.1.e1) = ⟨0, 0⟩))
        else (ref04_DistanceOf_spec t).bind fun r => some (r.2.2 && decide (v.2.2 = 0) && decide (v.1 = r.1) && decide ((Arr2_Int.mk v.2.1.e0 v.2.1.e1) = ⟨r.2.1.e0, r.2.1.e1⟩) || !r.2.2 && decide (v.2.2 = 12) && decide (v.1 = 0) && decide ((Arr2_Int.mk v.2.1.e0 v.2.1.e1) = ⟨0, 0⟩))) = some true) := by
      by_cases h : (chk t).2 = 0
      · obtain ⟨f, d, p, q, h1, h2, h3, h4, hB⟩ := dist_same (chk_rt h)
        refine ⟨(d, ⟨p, q⟩, bif f then 0 else 12), ?_, ?_⟩
        · simp only [h, decide_true, Bool.not_true, cond_false]
          show (locate_track_distance_spec ⟨t⟩).bind _ = _
          rw [h1]; rfl
        · simp only [h, decide_true, Bool.not_true, cond_false]
          rw [h2]
          cases f
          · rcases hB with ⟨_, rfl, rfl, rfl, _⟩ | ⟨hf, _⟩
            · rfl
            · cases hf
          · simp
      · exact ⟨(0, ⟨0, 0⟩, (chk t).2), by simp [h], by simp [h]⟩
    obtain ⟨v, hv1, hv2⟩ := key
    rcases differs_ok a b ha2 with ⟨e, he, h1, h2⟩ | ⟨n, h1, h2, h3⟩
    · rw [h1, h2]
      simp only [Option.bind_some, he, decide_false, Bool.not_false, Bool.true_and, decide_true, Bool.not_true, Bool.or_self, Bool.and_false, Bool.false_and, cond_false]
      rw [hv1]
      exact hv2
    · rw [h1, h2, h3]
      simp only [Option.bind_some, decide_true, Bool.not_true, Bool.false_and, Bool.not_false, Bool.and_self, cond_true, Bool.or_self, Bool.and_false, cond_false]
      rw [hv1]
      exact hv2
end Go.Gw
