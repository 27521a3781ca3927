/- LocateTrue answers true. Condition: none. -/
import Derived.Test.YtgpapebgdnimfaaDoorGwLoc13
import Derived.Test.YtgpapebgdnimfaaDoorGwLawLocateTrue
set_option maxRecDepth 4096
namespace Go.Gw
open Go
theorem Trk.one {s : Range} {a p : Int} (h1 : 0 ≤ a ∧ a ≤ 10000000) (h2 : 0 ≤ p ∧ p ≤ 1000000000) : Trk s [⟨a, ⟨p, p⟩⟩] (fun _ => p) where
  fix k hk := by
    obtain rfl : k = 0 := by simpa using hk
    simp [Okg]; omega
  stp k hk := by simp at hk
theorem Trk.snoc {s : Range} {l : List LocateFix} {P : Nat → Int} {n : Nat} {a p a' p' lo hi t v : Int} (h : Trk s l P) (hn : l.length = n + 1) (ha : (l.getD n default).At = a) (hp : P n = p)
    (h1 : 0 ≤ a' ∧ a' ≤ 10000000) (h2 : 0 ≤ lo ∧ lo ≤ p' ∧ p' ≤ hi ∧ hi ≤ 1000000000) (ht : 0 ≤ t) (hv : s.Lo ≤ v ∧ v ≤ s.Hi) (e1 : a' = a + 1000 * t) (e2 : p' = p + v * t) :
    Trk s (l ++ [⟨a', ⟨lo, hi⟩⟩]) (fun i => if i = n + 1 then p' else P i) where
  fix k hk := by
    rcases Nat.lt_or_ge k (n + 1) with hk2 | hk2
    · rw [List.getElem_append_left (by omega), if_neg (by omega)]
      exact h.fix k (by omega)
    · obtain rfl : k = n + 1 := by simp at hk; omega
      rw [List.getElem_append_right (by omega)]
      simp [hn, Okg]; omega
  stp k hk := by
    rcases Nat.lt_or_ge (k + 1) (n + 1) with hk2 | hk2
    · rw [List.getElem_append_left (by omega), List.getElem_append_left (by omega), if_neg (by omega), if_neg (by omega)]
      exact h.stp k (by omega)
    · obtain rfl : k = n := by simp at hk; omega
      rw [List.getElem_append_right (by omega), List.getElem_append_left (by omega), if_pos rfl, if_neg (by omega)]
      have hg : l.getD k default = l[k] := by simp [List.getD, hn]
      rw [hg] at ha
      exact ⟨t, v, ht, hv.1, hv.2, by simp [hn]; omega, by omega⟩
def lost (l : List Range) (p : Int) : Int := (l.length : Int) - cov l p
theorem true0_ok (l : List Range) (p : Int) (hl : l.length ≤ 12) : loop (law04_LocateTrue_s0 l p) (0, 0) = some (lost l p) := by
  have h := loop_fld (step := law04_LocateTrue_s0 l p) l (fun _ (a : Int) r => if r.Lo ≤ p ∧ p ≤ r.Hi then a else a + 1) (fun a k => (a, (k : Int))) (fun a => a) (fun a k => 0 ≤ a ∧ a ≤ k) 0 (by simp) (fun k hk a hI => ?_) (fun a _ => ?_)
  · have e : ∀ (l : List Range) (k : Nat) (a : Int), fld (fun _ (a : Int) r => if r.Lo ≤ p ∧ p ≤ r.Hi then a else a + 1) k a l = a + lost l p := by
      intro l
      unfold lost
      induction l with
      | nil => intro k a; simp [fld, cov]
      | cons r l ih =>
        intro k a
        simp only [fld]
        rw [ih]
        simp only [cov, List.length_cons]
        split <;> omega
    have := h.1
    rw [e] at this
    simpa using this
  · unfold law04_LocateTrue_s0
    simp only
    rw [lt_nat hk, cond_true, idx_nat hk]
    simp only [bwithin_ok, Option.bind_some]
    rw [w64n k (by omega)]
    by_cases hc : l[k].Lo ≤ p ∧ p ≤ l[k].Hi
    · simp [hc]; omega
    · have hc' : (decide (l[k].Lo ≤ p) && decide (p ≤ l[k].Hi)) = false := by rw [Bool.eq_false_iff]; simp only [ne_eq, Bool.and_eq_true, decide_eq_true_eq]; exact hc
      rw [hc', if_neg hc, w64_id (by omega)]
      exact ⟨rfl, by omega⟩
  · unfold law04_LocateTrue_s0
    simp only
    rw [lt_nat_no]; rfl
theorem true1_ok (p : Int) (r : List Range × Int) (hl : r.1.length ≤ 1000000001) : loop (law04_LocateTrue_s1 p r) (false, 0) = some (r.1.any fun x => decide (x.Lo ≤ p) && decide (p ≤ x.Hi)) := by
  have h := loop_fld (step := law04_LocateTrue_s1 p r) r.1 (fun _ (a : Bool) x => a || (decide (x.Lo ≤ p) && decide (p ≤ x.Hi))) (fun a k => (a, (k : Int))) (fun a => a) (fun _ _ => True) false trivial (fun k hk a _ => ⟨?_, trivial⟩) (fun a _ => ?_)
  · have e : ∀ (l : List Range) (k : Nat) (a : Bool), fld (fun _ (a : Bool) x => a || (decide (x.Lo ≤ p) && decide (p ≤ x.Hi))) k a l = (a || l.any fun x => decide (x.Lo ≤ p) && decide (p ≤ x.Hi)) := by
      intro l
      induction l with
      | nil => intro k a; simp [fld]
      | cons x l ih => intro k a; simp only [fld]; rw [ih]; simp [List.any_cons, Bool.or_assoc]
    have := h.1
    rw [e] at this
    simpa using this
  · unfold law04_LocateTrue_s1
    simp only
    rw [lt_nat hk, cond_true, idx_nat hk]
    cases a
    · simp only [Bool.not_false, cond_true, Option.bind_some, bwithin_ok, Bool.false_or]
      rw [w64n k (by omega)]
    · simp only [Bool.not_true, cond_false, Option.bind_some, Bool.true_or]
      rw [w64n k (by omega)]
  · unfold law04_LocateTrue_s1
    simp only
    rw [lt_nat_no]; rfl
theorem true2_ok {l : List Range} {p : Int} (h : fuE l (lost l p) = 0) : loop (law04_LocateTrue_s2 l p (lost l p)) (lost l p) = some (.inr ()) := by
  obtain ⟨h1, h2, h3, h4, h5⟩ := fuE_0.1 h
  have hb := cov_bound l p
  have hR : Runs (loop (law04_LocateTrue_s2 l p (lost l p)) (lost l p)) (· = .inr ()) := by
    refine Runs.loop (fun i => lost l p ≤ i ∧ i ≤ l.length) (fun i => l.length - i.toNat) ⟨by omega, by omega⟩ ?_
    intro i ⟨hi1, hi2⟩
    unfold law04_LocateTrue_s2
    rw [w64_id (x := lost l p + 2) (by omega)]
    generalize hN : (if lost l p + 2 < (l.length : Int) then lost l p + 2 else (l.length : Int)) = N
    have hN2 : N ≤ l.length := by rw [← hN]; split <;> omega
    by_cases hc : i < N
    · rw [decide_eq_true hc, cond_true, CopyRanges_ok l (by omega), Option.bind_some]
      have hz : fuE l i = 0 := fuE_0.2 ⟨h1, h2, h3, by omega, by omega⟩
      obtain ⟨out, hf, hr, _⟩ := Fused_ok l i (by omega)
      have hr := hr hz
      obtain ⟨out2, _, hr2, hlen⟩ := rFused_ok (l := l) (wrong := i) h2 (by omega) h3
      rw [← hr.unique hr2] at hlen
      rw [hf, Option.bind_some, true1_ok _ _ hlen, Option.bind_some]
      have hin : (out.any fun x => decide (x.Lo ≤ p) && decide (p ≤ x.Hi)) = true := by
        obtain ⟨x, hx, hx1, hx2⟩ := (hr.all p).1 (by unfold Fu; unfold lost at hi1; omega)
        rw [List.any_eq_true]
        exact ⟨x, hx, by simp [hx1, hx2]⟩
      rw [hz, hin, w64_id (by omega)]
      refine ⟨_, rfl, ?_⟩
      unfold Rnd
      simp only
      omega
    · rw [decide_eq_false hc]
      exact ⟨_, rfl, rfl⟩
  exact hR.eq
/-- What a journey comes to. -/
def JQ (J : guidewaylaw04_Journey) (o : Bool ⊕ (Int × List LocateFix)) : Prop := o = .inl true ∨ ∃ pos fx P, o = .inr (pos, fx) ∧ Trk J.Speed fx P ∧ 0 < fx.length ∧ fx.length ≤ 21 ∧ P (fx.length - 1) = pos
theorem true3_ok (J : guidewaylaw04_Journey) (hs : Oks J.Speed) (hn : J.Steps.length ≤ 20) (ha : 0 ≤ J.At ∧ J.At ≤ 1000000) (hp : 100000000 ≤ J.Place ∧ J.Place ≤ 900000000) :
    Runs (loop (law04_LocateTrue_s3 J) (J.At, J.Place, [⟨J.At, ⟨J.Place, J.Place⟩⟩], 0)) (JQ J) := by
  obtain ⟨s1, s2, s3⟩ := hs
  refine Runs.loop (fun x => ∃ k : Nat, x.2.2.2 = k ∧ k ≤ J.Steps.length ∧ x.2.2.1.length = k + 1 ∧ (x.2.2.1.getD k default).At = x.1 ∧ (∃ P, Trk J.Speed x.2.2.1 P ∧ P k = x.2.1) ∧ 0 ≤ x.1 ∧ x.1 ≤ 1000000 + 10000 * k ∧ 100000000 - 1400000 * k ≤ x.2.1 ∧ x.2.1 ≤ 900000000 + 1400000 * k)
    (fun x => J.Steps.length - x.2.2.2.toNat) ⟨0, rfl, by omega, rfl, rfl, ⟨_, Trk.one (by omega) (by omega), rfl⟩, by simp only; omega⟩ ?_
  rintro ⟨a, p, fx, i⟩ ⟨k, hi, hk, hfx, hat, ⟨P, hT, hP⟩, b1, b2, b3, b4⟩
  simp only at hi hk hfx hat hT hP b1 b2 b3 b4
  subst hi
  unfold law04_LocateTrue_s3
  simp only
  by_cases hc : k < J.Steps.length
  · rw [lt_nat hc, cond_true, idx_nat hc]
    simp only [bwithin_ok, Option.bind_some]
    generalize J.Steps[k] = e
    by_cases c1 : 0 ≤ e.Time ∧ e.Time ≤ 10
    · by_cases c2 : J.Speed.Lo ≤ e.Speed ∧ e.Speed ≤ J.Speed.Hi
      · by_cases c3 : 0 ≤ e.Before ∧ e.Before ≤ 100000
        · by_cases c4 : 0 ≤ e.Behind ∧ e.Behind ≤ 100000
          · simp only [c1.1, c1.2, c2.1, c2.2, c3.1, c3.2, c4.1, c4.2, decide_true, Bool.and_self, Bool.not_true, Bool.or_self, Bool.not_false, cond_true, cond_false, Option.bind_some]
            have m1 : e.Speed * e.Time ≤ 140000 * e.Time := Int.mul_le_mul_of_nonneg_right (by omega) c1.1
            have m2 : -140000 * e.Time ≤ e.Speed * e.Time := Int.mul_le_mul_of_nonneg_right (by omega) c1.1
            rw [w64_id (x := 1000 * e.Time) (by omega), w64_id (x := a + 1000 * e.Time) (by omega), w64_id (x := e.Speed * e.Time) (by omega), w64_id (x := p + e.Speed * e.Time) (by omega), w64_id (x := p + e.Speed * e.Time - e.Before) (by omega), w64_id (x := p + e.Speed * e.Time + e.Behind) (by omega), app_ok (by simp; omega), Option.bind_some, w64n k (by omega)]
            refine ⟨_, rfl, ⟨k + 1, rfl, by omega, by simp [hfx], ?_, ⟨_, hT.snoc (t := e.Time) (v := e.Speed) hfx hat hP (by omega) (by omega) c1.1 c2 rfl rfl, if_pos rfl⟩, ?_⟩, ?_⟩
            · simp only
              rw [← hfx]
              simp [List.getD]
            · simp only; omega
            · simp only; omega
          · have c4' : (decide (0 ≤ e.Behind) && decide (e.Behind ≤ 100000)) = false := by rw [Bool.eq_false_iff]; simp only [ne_eq, Bool.and_eq_true, decide_eq_true_eq]; exact c4
            simp only [c1.1, c1.2, c2.1, c2.2, c3.1, c3.2, c4', decide_true, Bool.and_self, Bool.not_true, Bool.or_self, Bool.not_false, cond_true, cond_false, Option.bind_some, Bool.or_true]
            exact ⟨_, rfl, .inl rfl⟩
        · have c3' : (decide (0 ≤ e.Before) && decide (e.Before ≤ 100000)) = false := by rw [Bool.eq_false_iff]; simp only [ne_eq, Bool.and_eq_true, decide_eq_true_eq]; exact c3
          simp only [c1.1, c1.2, c2.1, c2.2, c3', decide_true, Bool.and_self, Bool.not_true, Bool.or_self, Bool.not_false, cond_true, cond_false, Option.bind_some, Bool.or_true, Bool.true_or]
          exact ⟨_, rfl, .inl rfl⟩
      · have c2' : (decide (J.Speed.Lo ≤ e.Speed) && decide (e.Speed ≤ J.Speed.Hi)) = false := by rw [Bool.eq_false_iff]; simp only [ne_eq, Bool.and_eq_true, decide_eq_true_eq]; exact c2
        simp only [c1.1, c1.2, c2', decide_true, Bool.and_self, Bool.not_true, Bool.or_self, Bool.not_false, cond_true, cond_false, Option.bind_some, Bool.or_true, Bool.true_or]
        exact ⟨_, rfl, .inl rfl⟩
    · have c1' : (decide (0 ≤ e.Time) && decide (e.Time ≤ 10)) = false := by rw [Bool.eq_false_iff]; simp only [ne_eq, Bool.and_eq_true, decide_eq_true_eq]; exact c1
      simp only [c1', Bool.not_true, Bool.not_false, cond_true, cond_false, Option.bind_some, Bool.true_or]
      exact ⟨_, rfl, .inl rfl⟩
  · have : k = J.Steps.length := by omega
    rw [this, lt_nat_no]
    refine ⟨_, rfl, .inr ⟨p, fx, P, rfl, hT, by omega, by omega, ?_⟩⟩
    rw [show fx.length - 1 = k by omega]; exact hP
theorem LocateTrue_true (l : List Range) (p : Int) (J : guidewaylaw04_Journey) : law04_LocateTrue_spec l p J = some true := by
  unfold law04_LocateTrue_spec
  rw [awake_ok]
  simp only [Option.bind_some, Bool.not_true, cond_false]
  by_cases hc : 12 < (l.length : Int) ∨ 20 < (J.Steps.length : Int)
  · have : (decide (12 < (l.length : Int)) || decide (20 < (J.Steps.length : Int))) = true := by simpa using hc
    rw [this]; rfl
  · have : (decide (12 < (l.length : Int)) || decide (20 < (J.Steps.length : Int))) = false := by
      rw [Bool.eq_false_iff]; simp only [ne_eq, Bool.or_eq_true, decide_eq_true_eq]; exact hc
    rw [this]
    have hl : l.length ≤ 12 := by omega
    have hn : J.Steps.length ≤ 20 := by omega
    simp only [cond_false]
    rw [true0_ok l p hl, Option.bind_some, FusedErr_ok l _ (by omega), Option.bind_some]
    have e : (bif decide (fuE l (lost l p) = 0) then (loop (law04_LocateTrue_s2 l p (lost l p)) (lost l p)).bind fun o => jn0 o fun (_ : Unit) => (some (.inr ()) : Option (Bool ⊕ Unit)) else some (.inr ())) = some (.inr ()) := by
      by_cases h : fuE l (lost l p) = 0
      · rw [true2_ok h, decide_eq_true h]; rfl
      · rw [decide_eq_false h]; rfl
    rw [e, Option.bind_some]
    simp only [jn0, SpeedErr_ok, bwithin_ok, Option.bind_some]
    by_cases h1 : spE J.Speed = 0
    · by_cases h2 : 0 ≤ J.At ∧ J.At ≤ 1000000
      · by_cases h3 : 100000000 ≤ J.Place ∧ J.Place ≤ 900000000
        · simp only [h1, h2.1, h2.2, h3.1, h3.2, decide_true, Bool.and_self, Bool.not_true, Bool.or_self, Bool.not_false, cond_true, cond_false, Option.bind_some]
          obtain ⟨o, ho, hq⟩ := true3_ok J (spE_0 h1) hn h2 h3
          rw [ho]
          rcases hq with rfl | ⟨pos, fx, P, rfl, hT, hf0, hf1, hP⟩
          · rfl
          · obtain ⟨r, hr, r1, r2⟩ := Follow_trk (by omega) hf0 h1 hT
            simp only [Option.bind_some]
            rw [hr]
            rw [hP] at r1 r2
            simp [r1, r2]
        · have h3' : (decide (100000000 ≤ J.Place) && decide (J.Place ≤ 900000000)) = false := by rw [Bool.eq_false_iff]; simp only [ne_eq, Bool.and_eq_true, decide_eq_true_eq]; exact h3
          simp [h1, h2, h3']
      · have h2' : (decide (0 ≤ J.At) && decide (J.At ≤ 1000000)) = false := by rw [Bool.eq_false_iff]; simp only [ne_eq, Bool.and_eq_true, decide_eq_true_eq]; exact h2
        simp [h1, h2']
    · simp [h1]
end Go.Gw
