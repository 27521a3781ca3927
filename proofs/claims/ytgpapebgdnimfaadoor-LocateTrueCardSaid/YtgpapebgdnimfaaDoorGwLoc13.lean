/- Ranges followed: both texts tell the same; a true course stays within what is told. Condition: the course keeps to the speeds and the fixes. -/
import Derived.Test.YtgpapebgdnimfaaDoorGwLoc12
set_option maxRecDepth 4096
namespace Go.Gw
open Go
section
variable {σ ρ β : Type}
/-- A search over numbers. -/
def scan (e : Nat → Option ρ) : Nat → Nat → ρ ⊕ Unit
  | 0, _ => .inr ()
  | j + 1, k => match e k with | some r => .inl r | none => scan e j (k + 1)
theorem scan_none {e : Nat → Option ρ} : ∀ {j k}, scan e j k = .inr () → ∀ i, k ≤ i → i < k + j → e i = none
  | 0, k, _, i, h1, h2 => by omega
  | j + 1, k, h, i, h1, h2 => by
    unfold scan at h
    cases hk : e k with
    | some r => rw [hk] at h; cases h
    | none =>
      rw [hk] at h
      rcases Nat.lt_or_ge k i with h3 | h3
      · exact scan_none h i h3 (by omega)
      · obtain rfl : k = i := by omega
        exact hk
theorem loop_scan {step : σ → Option (σ ⊕ (ρ ⊕ Unit))} (n : Nat) (S : Nat → σ) (e : Nat → Option ρ)
    (hs : ∀ k, k < n → step (S k) = some (match e k with | some r => .inr (.inl r) | none => .inl (S (k + 1))))
    (he : step (S n) = some (.inr (.inr ()))) : loop step (S 0) = some (scan e n 0) := by
  have key : ∀ j k, j + k = n → loop step (S k) = some (scan e j k) := by
    intro j
    induction j with
    | zero => intro k hk; obtain rfl : k = n := by omega
              exact loop_inr he
    | succ j ih =>
      intro k hk
      have := hs k (by omega)
      unfold scan
      cases h : e k with
      | some r => rw [h] at this; exact loop_inr this
      | none => rw [h] at this; rw [loop_inl this]; exact ih (k + 1) (by omega)
  exact key n 0 (by omega)
theorem loop_two {step step' : σ → Option (σ ⊕ β)} {s : σ} (I : σ → Prop) (m : σ → Nat) (h0 : I s)
    (h : ∀ s, I s → ∃ x, step s = some x ∧ step' s = some x ∧ ∀ s', x = .inl s' → I s' ∧ m s' < m s) : ∃ o, loop step s = some o ∧ loop step' s = some o := by
  generalize hk : m s = k
  induction k using Nat.strongRecOn generalizing s with
  | _ k ih =>
    obtain ⟨x, h1, h2, h3⟩ := h s h0
    cases x with
    | inl s' =>
      obtain ⟨i1, i2⟩ := h3 s' rfl
      rw [loop_inl h1, loop_inl h2]
      exact ih (m s') (by omega) i1 rfl
    | inr o => exact ⟨o, loop_inr h1, loop_inr h2⟩
end
/-- The time of the fix before. -/
def lastAt (l : List LocateFix) : Nat → Int
  | 0 => 0
  | k + 1 => (l.getD k default).At
def fxE (last : Int) (f : LocateFix) : Int := if tiE f.At ≠ 0 then tiE f.At else if rgE f.Place ≠ 0 then rgE f.Place else if last ≤ f.At then 0 else 9
def fxO (l : List LocateFix) (k : Nat) : Option (Range × Int × Int) := if fxE (lastAt l k) (l.getD k default) = 0 then none else some (rg0, 0, fxE (lastAt l k) (l.getD k default))
theorem fx_frst (last : Int) (f : LocateFix) : frst [tiE f.At, rgE f.Place, bif decide (last ≤ f.At) then 0 else 9] = fxE last f := by
  unfold fxE
  by_cases h1 : tiE f.At = 0
  · by_cases h2 : rgE f.Place = 0
    · by_cases h3 : last ≤ f.At
      · simp [frst, h1, h2, h3]
      · simp [frst, h1, h2, h3]
    · simp [frst, h1, h2]
  · simp [frst, h1]
theorem follow0_ok (l : List LocateFix) (hl : l.length ≤ 40) : loop (locate_Follow_s0 l) (0, 0) = some (scan (fxO l) l.length 0) := by
  refine loop_scan l.length (fun k => (lastAt l k, (k : Int))) (fxO l) (fun k hk => ?_) ?_
  · unfold locate_Follow_s0
    simp only
    rw [lt_nat hk, cond_true, idx_nat hk, Option.bind_some, timeErr_ok, Option.bind_some, placesErr_ok, Option.bind_some, unless_ok, Option.bind_some, first_ok _ (by simp), fx_frst, Option.bind_some]
    have hg : l.getD k default = l[k] := by simp [List.getD, hk]
    unfold fxO
    rw [hg]
    by_cases h : fxE (lastAt l k) l[k] = 0
    · simp only [h, decide_true, Bool.not_true, cond_false, if_true]
      rw [w64n k (by omega)]
      simp only [lastAt, hg]
    · simp only [h, decide_false, Bool.not_false, cond_true, if_false]
      rfl
  · unfold locate_Follow_s0
    simp only
    rw [lt_nat_no]; rfl
theorem rfollow0_ok (l : List LocateFix) (hl : l.length ≤ 40) : loop (ref04_Follow_s0 l) 0 = some (scan (fxO l) l.length 0) := by
  refine loop_scan l.length (fun k => (k : Int)) (fxO l) (fun k hk => ?_) ?_
  · unfold ref04_Follow_s0
    have hg : l.getD k default = l[k] := by simp [List.getD, hk]
    rw [lt_nat hk, cond_true, idx_nat hk, Option.bind_some, TimeErr_ok, Option.bind_some]
    unfold fxO
    rw [hg]
    unfold fxE
    by_cases h1 : tiE l[k].At = 0
    · simp only [h1, decide_true, Bool.not_true, cond_false, Option.bind_some, RangeErr_ok, ne_eq, not_true_eq_false, if_false]
      by_cases h2 : rgE l[k].Place = 0
      · simp only [h2, decide_true, Bool.not_true, cond_false, ne_eq, not_true_eq_false, if_false]
        cases k with
        | zero =>
          have h3 : (0 : Int) ≤ l[0].At := (tiE_0 h1).1
          simp [lastAt, h3, w64_id]
        | succ j =>
          have e : w64 (((j + 1 : Nat) : Int) - 1) = (j : Int) := by rw [w64_id (by omega)]; omega
          have hj : l.getD j default = l[j] := by simp [List.getD, show j < l.length by omega]
          have h0 : decide ((0 : Int) < ((j + 1 : Nat) : Int)) = true := decide_eq_true (by omega)
          rw [h0, cond_true, Option.bind_some, cond_true, e, idx_nat (by omega), Option.bind_some, Bool.true_and]
          simp only [lastAt, hj]
          by_cases h3 : l[j].At ≤ l[j + 1].At
          · have h4 : ¬ l[j + 1].At < l[j].At := by omega
            simp only [h3, h4, decide_false, cond_false, if_true]
            rw [w64n (j + 1) (by omega)]
          · have h4 : l[j + 1].At < l[j].At := by omega
            simp [h3, h4, rg0]
      · simp [h2, rg0]
    · simp [h1, rg0]
  · unfold ref04_Follow_s0
    rw [lt_nat_no]; rfl
theorem fxE_0 {last : Int} {f : LocateFix} (h : fxE last f = 0) : 0 ≤ f.At ∧ f.At ≤ 10000000 ∧ Okg f.Place ∧ last ≤ f.At := by
  unfold fxE at h
  by_cases h1 : tiE f.At = 0
  · by_cases h2 : rgE f.Place = 0
    · by_cases h3 : last ≤ f.At
      · exact ⟨(tiE_0 h1).1, (tiE_0 h1).2, rgE_0.1 h2, h3⟩
      · simp [h1, h2, h3] at h
    · simp [h1, h2] at h
  · simp [h1] at h
/-- A followed range. -/
def FI (n : Nat) (s : Int × Int × Int) : Prop := 1 ≤ s.1 ∧ s.1 ≤ n ∧ 0 ≤ s.2.1 ∧ s.2.1 ≤ 1000000000 ∧ 0 ≤ s.2.2 ∧ s.2.2 ≤ 1000000000
theorem follow1_ok {l : List LocateFix} {p : Range} (hl : l.length ≤ 40) (hp : Oks p) (hok : ∀ k, k < l.length → fxO l k = none) {s : Int × Int × Int} (h0 : FI l.length s) :
    ∃ o, loop (locate_Follow_s1 p l) s = some o ∧ loop (ref04_Follow_s1 p l) s = some o := by
  refine loop_two (FI l.length) (fun s => l.length - s.1.toNat) h0 ?_
  rintro ⟨i, lo, hi⟩ ⟨h1, h2, h3, h4, h5, h6⟩
  simp only at h1 h2 h3 h4 h5 h6
  obtain ⟨j, rfl⟩ : ∃ j : Nat, i = ((j + 1 : Nat) : Int) := ⟨(i - 1).toNat, by omega⟩
  unfold locate_Follow_s1 ref04_Follow_s1
  simp only
  by_cases hk : j + 1 < l.length
  · have e : w64 (((j + 1 : Nat) : Int) - 1) = (j : Int) := by rw [w64_id (by omega)]; omega
    rw [lt_nat hk, e, idx_nat hk, idx_nat (show j < l.length by omega)]
    have ok : ∀ k (hk : k < l.length), fxE (lastAt l k) l[k] = 0 := by
      intro k hk
      have := hok k hk
      unfold fxO at this
      have hg : l.getD k default = l[k] := by simp [List.getD, hk]
      rw [hg] at this
      by_cases h : fxE (lastAt l k) l[k] = 0
      · exact h
      · simp [h] at this
    obtain ⟨a1, a2, ⟨a3, a4, a5⟩, a6⟩ := fxE_0 (ok (j + 1) hk)
    obtain ⟨b1, b2, _, _⟩ := fxE_0 (ok j (by omega))
    have hj : l.getD j default = l[j] := by simp [List.getD, show j < l.length by omega]
    simp only [lastAt, hj] at a6
    simp only [cond_true, Option.bind_some]
    rw [w64_id (x := l[j + 1].At - l[j].At) (by omega)]
    obtain ⟨m1, m2⟩ := moved_ok (x := ⟨lo, hi⟩) (s := p) (t := l[j + 1].At - l[j].At) (by simp only; omega) hp (by omega)
    rw [m1, m2]
    simp only [Option.bind_some]
    generalize mvR ⟨lo, hi⟩ p (l[j + 1].At - l[j].At) = r
    generalize hH : (if l[j + 1].Place.Hi < r.Hi then l[j + 1].Place.Hi else r.Hi) = H
    generalize hL : (if r.Lo < l[j + 1].Place.Lo then l[j + 1].Place.Lo else r.Lo) = L
    by_cases hHL : H < L
    · exact ⟨.inr (.inl (rg0, ((j + 1 : Nat) : Int), 13)), by rw [decide_eq_true hHL]; rfl, by rw [decide_eq_true hHL]; rfl, by rintro s' h; cases h⟩
    · refine ⟨.inl (w64 (((j + 1 : Nat) : Int) + 1), L, H), by rw [decide_eq_false hHL]; rfl, by rw [decide_eq_false hHL]; rfl, ?_⟩
      rintro s' h
      cases h
      rw [w64n (j + 1) (by omega)]
      have g1 : H ≤ l[j + 1].Place.Hi := by rw [← hH]; split <;> omega
      have g2 : l[j + 1].Place.Lo ≤ L := by rw [← hL]; split <;> omega
      unfold FI
      simp only
      omega
  · have : j + 1 = l.length := by omega
    rw [this, lt_nat_no]
    exact ⟨_, rfl, rfl, by rintro s' h; cases h⟩
theorem Follow_same (p : Range) (l : List LocateFix) : ∃ r, locate_Follow_spec p l = some r ∧ ref04_Follow_spec p l = some r := by
  unfold locate_Follow_spec ref04_Follow_spec
  simp only [speedErr_ok, SpeedErr_ok, unless_ok, Option.bind_some]
  rw [first_ok _ (by simp)]
  simp only [Option.bind_some]
  by_cases h1 : spE p = 0
  · by_cases h2 : l.length = 0
    · have : ¬ (0 : Int) < (l.length : Int) := by omega
      have h2' : (l.length : Int) = 0 := by omega
      exact ⟨(rg0, 0, 10), by simp [frst, h1, h2', rg0], by simp [h1, h2', rg0]⟩
    · by_cases h3 : l.length ≤ 40
      · have t1 : (0 : Int) < (l.length : Int) := by omega
        have t2 : ¬ (l.length : Int) = 0 := by omega
        have t3 : (l.length : Int) ≤ 40 := by omega
        have t4 : ¬ (40 : Int) < (l.length : Int) := by omega
        have e : frst [spE p, bif decide (0 < (l.length : Int)) then 0 else 10, bif decide ((l.length : Int) ≤ 40) then 0 else 8] = 0 := by simp only [frst, h1, t1, t3, decide_true, cond_true, if_true]
        rw [e]
        simp only [h1, t2, t4, decide_true, decide_false, Bool.not_true, cond_false]
        rw [follow0_ok l h3, rfollow0_ok l h3]
        simp only [Option.bind_some]
        cases hs : scan (fxO l) l.length 0 with
        | inl r => exact ⟨r, rfl, rfl⟩
        | inr u =>
          have hok := fun k (hk : k < l.length) => scan_none hs k (by omega) (by omega)
          have i0 : idx l 0 = some l[0] := idx_nat (k := 0) (by omega)
          simp only [jn0, i0, Option.bind_some]
          have : fxE (lastAt l 0) l[0] = 0 := by
            have := hok 0 (by omega)
            unfold fxO at this
            have hg : l.getD 0 default = l[0] := by simp [List.getD, show 0 < l.length by omega]
            rw [hg] at this
            by_cases h : fxE (lastAt l 0) l[0] = 0
            · exact h
            · simp [h] at this
          obtain ⟨_, _, ⟨a3, a4, a5⟩, _⟩ := fxE_0 this
          obtain ⟨o, h5, h6⟩ := follow1_ok (p := p) h3 (spE_0 h1) hok (s := (1, l[0].Place.Lo, l[0].Place.Hi)) (by unfold FI; simp only; omega)
          rw [h5, h6]
          cases o with
          | inl r => exact ⟨r, rfl, rfl⟩
          | inr r => exact ⟨(⟨r.1, r.2⟩, 0, 0), rfl, rfl⟩
      · have t1 : (0 : Int) < (l.length : Int) := by omega
        have t2 : ¬ (l.length : Int) = 0 := by omega
        have t3 : ¬ (l.length : Int) ≤ 40 := by omega
        have t4 : (40 : Int) < (l.length : Int) := by omega
        exact ⟨(rg0, 0, 8), by simp only [frst, h1, t1, t3, decide_true, decide_false, cond_true, cond_false, if_true]; rfl, by simp only [h1, t2, t4, decide_true, decide_false, cond_true, cond_false, Bool.not_true]; rfl⟩
  · exact ⟨(rg0, 0, spE p), by simp [frst, h1, rg0], by simp [h1, rg0]⟩
/-- A true course through the fixes. -/
structure Trk (s : Range) (l : List LocateFix) (P : Nat → Int) : Prop where
  fix : ∀ k (hk : k < l.length), 0 ≤ l[k].At ∧ l[k].At ≤ 10000000 ∧ Okg l[k].Place ∧ l[k].Place.Lo ≤ P k ∧ P k ≤ l[k].Place.Hi
  stp : ∀ k (hk : k + 1 < l.length), ∃ t v, 0 ≤ t ∧ s.Lo ≤ v ∧ v ≤ s.Hi ∧ l[k + 1].At = l[k].At + 1000 * t ∧ P (k + 1) = P k + v * t
theorem tiE_of {n : Int} (h : 0 ≤ n ∧ n ≤ 10000000) : tiE n = 0 := by unfold tiE; rw [if_pos h]
theorem Trk.ok {s : Range} {l : List LocateFix} {P : Nat → Int} (h : Trk s l P) (k : Nat) (hk : k < l.length) : fxO l k = none := by
  obtain ⟨h1, h2, h3, _, _⟩ := h.fix k hk
  have hg : l.getD k default = l[k] := by simp [List.getD, hk]
  have hlast : lastAt l k ≤ l[k].At := by
    cases k with
    | zero => exact h1
    | succ j =>
      obtain ⟨t, v, ht, _, _, h4, _⟩ := h.stp j hk
      have hj : l.getD j default = l[j] := by simp [List.getD, show j < l.length by omega]
      simp only [lastAt, hj]
      omega
  unfold fxO fxE
  rw [hg, tiE_of ⟨h1, h2⟩, rgE_0.2 h3]
  simp [hlast]
theorem mvR_in {lo hi p v t : Int} {s : Range} (h1 : lo ≤ p) (h2 : p ≤ hi) (h3 : s.Lo ≤ v) (h4 : v ≤ s.Hi) (ht : 0 ≤ t) : (mvR ⟨lo, hi⟩ s (1000 * t)).Lo ≤ p + v * t ∧ p + v * t ≤ (mvR ⟨lo, hi⟩ s (1000 * t)).Hi := by
  unfold mvR
  simp only
  have e1 : s.Lo * (1000 * t) = (s.Lo * t) * 1000 := by rw [Int.mul_comm 1000 t, Int.mul_assoc]
  have e2 : s.Hi * (1000 * t) = (s.Hi * t) * 1000 := by rw [Int.mul_comm 1000 t, Int.mul_assoc]
  have b1 : s.Lo * t ≤ v * t := Int.mul_le_mul_of_nonneg_right h3 ht
  have b2 : v * t ≤ s.Hi * t := Int.mul_le_mul_of_nonneg_right h4 ht
  rw [e1, e2]
  generalize s.Lo * t = a at *
  generalize s.Hi * t = b at *
  generalize v * t = c at *
  omega
theorem follow1_trk {l : List LocateFix} {s : Range} {P : Nat → Int} (hl : l.length ≤ 40) (hp : Oks s) (ht : Trk s l P) (h0 : 0 < l.length) :
    Runs (loop (locate_Follow_s1 s l) (1, l[0].Place.Lo, l[0].Place.Hi)) fun o => ∃ lo hi, o = .inr (lo, hi) ∧ lo ≤ P (l.length - 1) ∧ P (l.length - 1) ≤ hi := by
  obtain ⟨_, _, ⟨g1, g2, g3⟩, g4, g5⟩ := ht.fix 0 h0
  refine Runs.loop (fun s => FI l.length s ∧ s.2.1 ≤ P (s.1.toNat - 1) ∧ P (s.1.toNat - 1) ≤ s.2.2) (fun s => l.length - s.1.toNat) ⟨by unfold FI; simp only; omega, g4, g5⟩ ?_
  rintro ⟨i, lo, hi⟩ ⟨⟨h1, h2, h3, h4, h5, h6⟩, h7, h8⟩
  simp only at h1 h2 h3 h4 h5 h6 h7 h8
  obtain ⟨j, rfl⟩ : ∃ j : Nat, i = ((j + 1 : Nat) : Int) := ⟨(i - 1).toNat, by omega⟩
  have ej : ((j + 1 : Nat) : Int).toNat - 1 = j := by omega
  rw [ej] at h7 h8
  unfold locate_Follow_s1
  simp only
  by_cases hk : j + 1 < l.length
  · have e : w64 (((j + 1 : Nat) : Int) - 1) = (j : Int) := by rw [w64_id (by omega)]; omega
    rw [lt_nat hk, e, idx_nat hk, idx_nat (show j < l.length by omega)]
    obtain ⟨a1, a2, ⟨a3, a4, a5⟩, a6, a7⟩ := ht.fix (j + 1) hk
    obtain ⟨b1, b2, _, _⟩ := ht.fix j (by omega)
    obtain ⟨t, v, c1, c2, c3, c4, c5⟩ := ht.stp j hk
    simp only [cond_true, Option.bind_some]
    rw [w64_id (x := l[j + 1].At - l[j].At) (by omega)]
    obtain ⟨m1, _⟩ := moved_ok (x := ⟨lo, hi⟩) (s := s) (t := l[j + 1].At - l[j].At) (by simp only; omega) hp (by omega)
    rw [m1, show l[j + 1].At - l[j].At = 1000 * t by omega]
    simp only [Option.bind_some]
    have hm := mvR_in h7 h8 c2 c3 c1
    rw [← c5] at hm
    generalize mvR ⟨lo, hi⟩ s (1000 * t) = r at hm
    generalize hH : (if l[j + 1].Place.Hi < r.Hi then l[j + 1].Place.Hi else r.Hi) = H
    generalize hL : (if r.Lo < l[j + 1].Place.Lo then l[j + 1].Place.Lo else r.Lo) = L
    have g1 : H ≤ l[j + 1].Place.Hi := by rw [← hH]; split <;> omega
    have g2 : l[j + 1].Place.Lo ≤ L := by rw [← hL]; split <;> omega
    have g3 : P (j + 1) ≤ H := by rw [← hH]; split <;> omega
    have g4 : L ≤ P (j + 1) := by rw [← hL]; split <;> omega
    rw [decide_eq_false (by omega), cond_false, w64n (j + 1) (by omega)]
    refine ⟨_, rfl, ⟨?_, ?_⟩, ?_⟩
    · unfold FI; simp only; omega
    · simp only
      rw [show ((j + 1 + 1 : Nat) : Int).toNat - 1 = j + 1 by omega]
      exact ⟨g4, g3⟩
    · simp only; omega
  · have : j + 1 = l.length := by omega
    rw [this, lt_nat_no]
    refine ⟨_, rfl, lo, hi, rfl, ?_⟩
    rw [show l.length - 1 = j by omega]
    exact ⟨h7, h8⟩
theorem scan_all {ρ : Type} {e : Nat → Option ρ} : ∀ {j k}, (∀ i, k ≤ i → i < k + j → e i = none) → scan e j k = .inr ()
  | 0, k, _ => rfl
  | j + 1, k, h => by
    unfold scan
    rw [h k (by omega) (by omega)]
    exact scan_all fun i h1 h2 => h i (by omega) (by omega)
theorem Follow_trk {l : List LocateFix} {s : Range} {P : Nat → Int} (hl : l.length ≤ 40) (h0 : 0 < l.length) (hs : spE s = 0) (ht : Trk s l P) :
    ∃ r : Range, locate_Follow_spec s l = some (r, 0, 0) ∧ r.Lo ≤ P (l.length - 1) ∧ P (l.length - 1) ≤ r.Hi := by
  unfold locate_Follow_spec
  have t1 : (0 : Int) < (l.length : Int) := by omega
  have t3 : (l.length : Int) ≤ 40 := by omega
  simp only [speedErr_ok, unless_ok, Option.bind_some]
  rw [first_ok _ (by simp)]
  simp only [Option.bind_some]
  have e : frst [spE s, bif decide (0 < (l.length : Int)) then 0 else 10, bif decide ((l.length : Int) ≤ 40) then 0 else 8] = 0 := by simp only [frst, hs, t1, t3, decide_true, cond_true, if_true]
  rw [e, follow0_ok l hl, scan_all (fun i _ h2 => ht.ok i (by omega))]
  have i0 : idx l 0 = some l[0] := idx_nat (k := 0) h0
  simp only [decide_true, Bool.not_true, cond_false, Option.bind_some, jn0, i0]
  obtain ⟨o, ho, lo, hi, rfl, h1, h2⟩ := follow1_trk hl (spE_0 hs) ht h0
  rw [ho]
  exact ⟨⟨lo, hi⟩, rfl, h1, h2⟩
end Go.Gw
