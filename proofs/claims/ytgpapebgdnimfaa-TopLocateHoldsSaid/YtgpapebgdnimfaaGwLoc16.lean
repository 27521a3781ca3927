/- A run from tooth to tooth: what is told has the true place; a course told by its fixes. Condition: the track is right. -/
import Derived.Test.YtgpapebgdnimfaaGwLoc13
import Derived.Test.YtgpapebgdnimfaaGwLoc15
set_option maxRecDepth 4096
namespace Go.Gw
open Go
/-- The count off by up to the slack fits. -/
theorem fit_off {t : LocateTrack} (h : Rt t) {too off : Int} (h1 : -t.Slack ≤ off) (h2 : off ≤ t.Slack) : fitB t too ((too + off) % t.Modulus) = true := by
  have hm := h.m1; have hs := h.s1; have hs2 := h.s2
  unfold fitB
  have e : (too - (too + off) % t.Modulus) % t.Modulus = (-off) % t.Modulus := by
    have h3 := Int.mul_ediv_add_emod (too + off) t.Modulus
    have h4 : too - (too + off) % t.Modulus = -off + t.Modulus * ((too + off) / t.Modulus) := by omega
    rw [h4, Int.add_mul_emod_self_left]
  rw [e]
  simp only [Bool.or_eq_true, decide_eq_true_eq]
  rcases Int.lt_or_le 0 off with h5 | h5
  · rcases Int.lt_or_le off t.Modulus with h6 | h6
    · have h7 : (-off) % t.Modulus = t.Modulus - off := by
        rw [show -off = (t.Modulus - off) + t.Modulus * (-1) by omega, Int.add_mul_emod_self_left, Int.emod_eq_of_lt (by omega) (by omega)]
      omega
    · have h7 : off = t.Modulus := by omega
      subst h7
      left
      rw [Int.neg_emod_self]; exact hs
  · rcases Int.lt_or_le (-off) t.Modulus with h6 | h6
    · rw [Int.emod_eq_of_lt (by omega) h6]; omega
    · have h7 : -off = t.Modulus := by omega
      rw [h7, Int.emod_self]; omega
theorem plc_mono {t : LocateTrack} (h : Rt t) {i j : Int} (hij : i ≤ j) : (plc t i).Hi ≤ (plc t j).Hi ∧ (plc t i).Lo ≤ (plc t j).Lo := by
  have ht := h.t1
  have := Int.mul_le_mul_of_nonneg_right hij (show 0 ≤ t.Tooth by omega)
  unfold plc; simp only; omega
theorem near_len (t : LocateTrack) (seen : List Int) : (nearL t seen).length ≤ nW t := by
  have key : ∀ n, (rng (fun i (x : List Int) => if dW t i seen ≤ t.Errors then x ++ [(i : Int)] else x) [] n).length ≤ n := by
    intro n
    induction n with
    | zero => simp [rng]
    | succ n ih =>
      simp only [rng]
      split
      · simp; omega
      · omega
  exact key (nW t)
/-- What stands behind n teeth. -/
structure PI (t : LocateTrack) (x : LocateReading) (n : Nat) (a : List Range × Int) : Prop where
  run : ∀ r ∈ a.1, ∃ i j : Nat, i ≤ j ∧ j < n ∧ (∀ k, i ≤ k → k ≤ j → isP t x k = true) ∧ r.Lo = (plc t i).Lo ∧ r.Hi = (plc t j).Hi
  lst : 0 < n → isP t x (n - 1) = true → a.1 ≠ [] ∧ a.2 = ((n - 1 : Nat) : Int)
  fin : a.1 ≠ [] → ∃ r, a.1.getLast? = some r ∧ ∃ m : Nat, a.2 = m ∧ m < n ∧ isP t x m = true ∧ r.Hi = (plc t m).Hi ∧ ∀ i : Nat, i ≤ m → (∀ k, i ≤ k → k ≤ m → isP t x k = true) → r.Lo ≤ (plc t i).Lo
  cov : ∀ i j : Nat, i ≤ j → j < n → (∀ k, i ≤ k → k ≤ j → isP t x k = true) → ∃ r ∈ a.1, r.Lo ≤ (plc t i).Lo ∧ (plc t j).Hi ≤ r.Hi
theorem plc_inj {t : LocateTrack} (h : Rt t) {i j : Nat} (e : (plc t i).Hi = (plc t j).Hi) : i = j := by
  have ht := h.t1
  unfold plc at e
  simp only at e
  rcases Nat.lt_trichotomy i j with hlt | rfl | hgt
  · have := Int.mul_le_mul_of_nonneg_right (show (i : Int) + 1 ≤ j by omega) (show 0 ≤ t.Tooth by omega)
    rw [Int.add_mul] at this
    omega
  · rfl
  · have := Int.mul_le_mul_of_nonneg_right (show (j : Int) + 1 ≤ i by omega) (show 0 ≤ t.Tooth by omega)
    rw [Int.add_mul] at this
    omega
theorem set_last {l : List Range} {y : Range} (h : 0 < l.length) : (l.set (l.length - 1) y).getLast? = some y := by
  rw [List.getLast?_eq_getElem?, List.length_set]
  simp [show l.length - 1 < l.length by omega]
theorem poss_PI {t : LocateTrack} (h : Rt t) (x : LocateReading) : ∀ n : Nat, PI t x n (possS t x n)
  | 0 => ⟨fun r hr => (by cases hr), fun h => (by omega), fun h => absurd rfl h, fun i j _ h => (by omega)⟩
  | n + 1 => by
    have ih := poss_PI h x n
    have e : possS t x (n + 1) = if isP t x n then mg t (possS t x n) n else possS t x n := rfl
    rw [e]
    by_cases hp : isP t x n = true
    · rw [if_pos hp]
      generalize possS t x n = a at ih
      obtain ⟨h1, h2, h3, h4⟩ := ih
      unfold mg
      by_cases hb : 0 < a.1.length ∧ a.2 = (n : Int) - 1
      · rw [if_pos hb]
        have hne : a.1 ≠ [] := by intro h; rw [h] at hb; simp at hb
        obtain ⟨r0, hr0, m, hm, hmn, hpm, hHi, hLo⟩ := h3 hne
        obtain rfl : n = m + 1 := by omega
        have hlast : a.1.getD (a.1.length - 1) rg0 = r0 := by
          rw [List.getLast?_eq_getElem?] at hr0
          simp [List.getD, hr0]
        have hmem : r0 ∈ a.1 := List.mem_of_getLast? hr0
        have hmono := plc_mono h (i := (m : Int)) (j := ((m + 1 : Nat) : Int)) (by omega)
        rw [hlast]
        have hnew := set_last (y := ⟨r0.Lo, (plc t ((m + 1 : Nat) : Int)).Hi⟩) hb.1
        have hnm := List.mem_of_getLast? hnew
        refine ⟨?_, fun _ _ => ⟨List.ne_nil_of_mem hnm, rfl⟩, fun _ => ⟨_, hnew, m + 1, rfl, by omega, hp, rfl, ?_⟩, ?_⟩
        · intro r hr
          rcases List.mem_or_eq_of_mem_set hr with hr | rfl
          · obtain ⟨i, j, q1, q2, q3⟩ := h1 r hr
            exact ⟨i, j, q1, by omega, q3⟩
          · obtain ⟨i, j, q1, q2, q3, q4, q5⟩ := h1 r0 hmem
            have : j = m := plc_inj h (q5.symm.trans hHi)
            subst this
            refine ⟨i, j + 1, by omega, by omega, fun k k1 k2 => ?_, q4, rfl⟩
            rcases Nat.lt_or_ge j k with k3 | k3
            · obtain rfl : k = j + 1 := by omega
              exact hp
            · exact q3 k k1 k3
        · intro i hi hk
          simp only
          rcases Nat.lt_or_ge m i with k3 | k3
          · obtain rfl : i = m + 1 := by omega
            have := hLo m (Nat.le_refl _) (fun k k1 k2 => by obtain rfl : k = m := by omega
                                                             exact hpm)
            omega
          · exact hLo i k3 (fun k k1 k2 => hk k k1 (by omega))
        · intro i j hij hj hk
          rcases Nat.lt_or_ge m j with k3 | k3
          · obtain rfl : j = m + 1 := by omega
            refine ⟨_, hnm, ?_, Int.le_refl _⟩
            simp only
            rcases Nat.lt_or_ge m i with k4 | k4
            · obtain rfl : i = m + 1 := by omega
              have := hLo m (Nat.le_refl _) (fun k k1 k2 => by obtain rfl : k = m := by omega
                                                               exact hpm)
              omega
            · exact hLo i k4 (fun k k1 k2 => hk k k1 (by omega))
          · obtain ⟨r, hr, q1, q2⟩ := h4 i j hij (by omega) hk
            obtain ⟨u, hu, rfl⟩ := List.getElem_of_mem hr
            by_cases hj2 : u = a.1.length - 1
            · subst hj2
              have e1 : a.1[a.1.length - 1] = r0 := by simpa [List.getD, show a.1.length - 1 < a.1.length by omega] using hlast
              rw [e1] at q1 q2
              exact ⟨_, hnm, q1, by simp only; omega⟩
            · exact ⟨a.1[u], by
                have : (a.1.set (a.1.length - 1) ⟨r0.Lo, (plc t ((m + 1 : Nat) : Int)).Hi⟩)[u]'(by rw [List.length_set]; exact hu) = a.1[u] := List.getElem_set_ne (by omega) _
                exact this ▸ List.getElem_mem _, q1, q2⟩
      · rw [if_neg hb]
        have hno : 0 < n → isP t x (n - 1) ≠ true := by
          intro h0 h5
          obtain ⟨q1, q2⟩ := h2 h0 h5
          have := List.length_pos_iff.2 q1
          omega
        refine ⟨?_, fun _ _ => ⟨by simp, by simp⟩, fun _ => ⟨plc t n, by simp, n, rfl, by omega, hp, rfl, ?_⟩, ?_⟩
        · intro r hr
          rcases List.mem_append.1 hr with hr | hr
          · obtain ⟨i, j, q1, q2, q3⟩ := h1 r hr
            exact ⟨i, j, q1, by omega, q3⟩
          · obtain rfl : r = plc t n := by simpa using hr
            exact ⟨n, n, Nat.le_refl _, by omega, fun k k1 k2 => by obtain rfl : k = n := by omega
                                                                    exact hp, rfl, rfl⟩
        · intro i hi hk
          rcases Nat.lt_or_ge i n with k3 | k3
          · exact absurd (hk (n - 1) (by omega) (by omega)) (hno (by omega))
          · obtain rfl : i = n := by omega
            exact Int.le_refl _
        · intro i j hij hj hk
          rcases Nat.lt_or_ge j n with k3 | k3
          · obtain ⟨r, hr, q⟩ := h4 i j hij k3 hk
            exact ⟨r, List.mem_append_left _ hr, q⟩
          · obtain rfl : j = n := by omega
            rcases Nat.lt_or_ge i j with k4 | k4
            · exact absurd (hk (j - 1) (by omega) (by omega)) (hno (by omega))
            · obtain rfl : i = j := by omega
              exact ⟨plc t i, by simp, Int.le_refl _, Int.le_refl _⟩
    · rw [if_neg hp]
      generalize possS t x n = a at ih
      obtain ⟨h1, h2, h3, h4⟩ := ih
      refine ⟨?_, fun _ h5 => absurd h5 hp, ?_, ?_⟩
      · intro r hr
        obtain ⟨i, j, q1, q2, q3⟩ := h1 r hr
        exact ⟨i, j, q1, by omega, q3⟩
      · intro hne
        obtain ⟨r, hr, m, q1, q2, q3⟩ := h3 hne
        exact ⟨r, hr, m, q1, by omega, q3⟩
      · intro i j hij hj hk
        rcases Nat.lt_or_ge j n with k3 | k3
        · exact h4 i j hij k3 hk
        · obtain rfl : j = n := by omega
          exact absurd (hk j hij (Nat.le_refl _)) hp
/-- What is possible has the places of a tooth that fits, in one run. -/
theorem poss_cover {t : LocateTrack} (h : Rt t) (x : LocateReading) {k : Nat} (hk : k < nT t) (hp : isP t x k = true) : ∃ r ∈ possL t x, r.Lo ≤ (plc t k).Lo ∧ (plc t k).Hi ≤ r.Hi :=
  (poss_PI h x (nT t)).cov k k (Nat.le_refl _) hk (fun j h1 h2 => by obtain rfl : j = k := by omega
                                                                     exact hp)
theorem plc_ok {t : LocateTrack} (h : Rt t) {k : Nat} (hk : k < nT t) : Okg (plc t k) := by
  have hT := nT_le h
  have hb := tooth_bound h (i := (k : Int)) (by omega) (by omega)
  have hf := h.f1; have hf2 := h.f2; have ht := h.t1; have ht2 := h.t2
  have h0 : 0 ≤ (k : Int) * t.Tooth := Int.mul_nonneg (by omega) (by omega)
  have h1 : (k : Int) * t.Tooth ≤ 480 * 1000 := Int.mul_le_mul (by omega) ht2 (by omega) (by omega)
  unfold plc Okg; simp only; omega
theorem poss_ok {t : LocateTrack} (h : Rt t) (x : LocateReading) : ∀ r ∈ possL t x, Okg r := by
  intro r hr
  obtain ⟨i, j, h1, h2, _, h4, h5⟩ := (poss_PI h x (nT t)).run r hr
  have a := plc_ok h (k := i) (by omega)
  have b := plc_ok h (k := j) h2
  have c := plc_mono h (i := (i : Int)) (j := (j : Int)) (by omega)
  unfold Okg at *
  omega
theorem runs_len {M : Int} : ∀ (out : List Range) (m : Int), out.Pairwise (fun a b => a.Hi + 1 < b.Lo) → (∀ r ∈ out, r.Lo ≤ r.Hi ∧ m ≤ r.Lo ∧ r.Hi ≤ M) → (out.length : Int) ≤ M - m + 1 ∨ out = []
  | [], _, _, _ => .inr rfl
  | r :: l, m, h, hb => by
    left
    obtain ⟨h1, h2⟩ := List.pairwise_cons.1 h
    obtain ⟨b1, b2, b3⟩ := hb r (List.mem_cons_self ..)
    rcases runs_len l (r.Hi + 2) h2 (fun x hx => by
      obtain ⟨c1, c2, c3⟩ := hb x (List.mem_cons_of_mem _ hx)
      have := h1 x hx
      exact ⟨c1, by omega, c3⟩) with h3 | h3
    · simp only [List.length_cons]; omega
    · subst h3; simp; omega
theorem fu_len {l out : List Range} {wrong : Int} (hg : ∀ r ∈ l, Okg r) (hw : wrong < l.length) (h : IsRuns (Fu l wrong) out) : out.length ≤ 1000000001 := by
  have key : ∀ r ∈ out, r.Lo ≤ r.Hi ∧ 0 ≤ r.Lo ∧ r.Hi ≤ 1000000000 := by
    intro r hr
    have hle := h.le r hr
    have f1 := (h.all r.Lo).2 ⟨r, hr, Int.le_refl _, hle⟩
    have f2 := (h.all r.Hi).2 ⟨r, hr, hle, Int.le_refl _⟩
    refine ⟨hle, ?_, ?_⟩
    · apply Int.not_lt.1
      intro hn
      unfold Fu at f1
      rw [cov_far hg (.inl hn)] at f1
      omega
    · apply Int.not_lt.1
      intro hn
      unfold Fu at f2
      rw [cov_far hg (.inr hn)] at f2
      omega
  rcases runs_len out 0 h.sep key with h1 | h1
  · omega
  · subst h1; simp
theorem gtdiv {n b : Int} (hb : 0 < b) : n.tdiv b - (if n.tmod b < 0 then 1 else 0) = n / b := by
  rcases Int.lt_or_le n 0 with hn | hn
  · have e1 : n.tdiv b = -((-n) / b) := by
      obtain ⟨m, rfl⟩ : ∃ m, n = -m := ⟨-n, by omega⟩
      rw [Int.neg_tdiv, Int.tdiv_eq_ediv_of_nonneg (by omega), Int.neg_neg]
    have e2 : n.tmod b = -((-n) % b) := by
      obtain ⟨m, rfl⟩ : ∃ m, n = -m := ⟨-n, by omega⟩
      rw [Int.neg_tmod, Int.tmod_eq_emod_of_nonneg (by omega), Int.neg_neg]
    have h1 := Int.mul_ediv_add_emod (-n) b
    have h2 := Int.emod_nonneg (-n) (show b ≠ 0 by omega)
    have h3 := Int.emod_lt_of_pos (-n) hb
    rw [e1, e2]
    generalize (-n) / b = q at h1
    generalize (-n) % b = r at h1 h2 h3
    by_cases hr : r = 0
    · subst hr
      have : n / b = -q := ((Int.ediv_emod_unique (a := n) (r := 0) hb).2 ⟨by rw [Int.mul_neg]; omega, by omega, hb⟩).1
      rw [this]; simp
    · have : n / b = -q - 1 := ((Int.ediv_emod_unique (a := n) (r := b - r) hb).2 ⟨by rw [Int.mul_sub, Int.mul_neg, Int.mul_one]; omega, by omega, by omega⟩).1
      rw [this, if_pos (by omega)]
  · rw [Int.tdiv_eq_ediv_of_nonneg hn, if_neg, Int.sub_zero]
    rw [Int.tmod_eq_emod_of_nonneg hn]
    have := Int.emod_nonneg n (show b ≠ 0 by omega)
    omega
theorem gFloor_ok {n b : Int} (hb : 1 ≤ b) (h : -2000000000000 ≤ n ∧ n ≤ 2000000000000) : base_Floor_spec n b = some (n / b) ∧ -2000000000000 ≤ n / b ∧ n / b ≤ 2000000000000 := by
  have hg := gtdiv (n := n) (b := b) (by omega)
  have b1 : -2000000000000 ≤ n / b := by
    rw [Int.le_ediv_iff_mul_le (by omega)]
    omega
  have b2 : n / b ≤ 2000000000000 := by
    rcases Int.lt_or_le n 0 with hn | hn
    · have := Int.ediv_neg_of_neg_of_pos hn (show 0 < b by omega); omega
    · have := Int.ediv_le_self b hn; omega
  refine ⟨?_, b1, b2⟩
  unfold base_Floor_spec
  rw [quo_ok (by omega), Option.bind_some, rem_ok (by omega), Option.bind_some]
  by_cases hr : n.tmod b < 0
  · rw [if_pos hr] at hg
    rw [decide_eq_true hr, cond_true, w64_id (x := n.tdiv b) (by omega), w64_id (by omega), hg]
  · rw [if_neg hr] at hg
    rw [decide_eq_false hr, cond_false, w64_id (x := n.tdiv b) (by omega)]
    congr 1; omega
theorem gCeil_ok {n b : Int} (hb : 1 ≤ b) (h : -2000000000000 ≤ n ∧ n ≤ 2000000000000) : base_Ceil_spec n b = some (-((-n) / b)) ∧ -2000000000000 ≤ -((-n) / b) ∧ -((-n) / b) ≤ 2000000000000 := by
  obtain ⟨h1, h2, h3⟩ := gFloor_ok (n := -n) hb (by omega)
  unfold base_Ceil_spec
  rw [w64_id (x := 0 - n) (by omega), show 0 - n = -n by omega, h1, Option.bind_some, w64_id (by omega)]
  exact ⟨by congr 1; omega, by omega, by omega⟩
/-- A course by its fixes: whatever was run between two of them lies within the speeds. -/
structure TrkG (s : Range) (l : List LocateFix) (P : Nat → Int) : Prop where
  fix : ∀ k (hk : k < l.length), 0 ≤ l[k].At ∧ l[k].At ≤ 10000000 ∧ Okg l[k].Place ∧ l[k].Place.Lo ≤ P k ∧ P k ≤ l[k].Place.Hi
  stp : ∀ k (hk : k + 1 < l.length), l[k].At ≤ l[k + 1].At ∧ s.Lo * (l[k + 1].At - l[k].At) ≤ 1000 * (P (k + 1) - P k) ∧ 1000 * (P (k + 1) - P k) ≤ s.Hi * (l[k + 1].At - l[k].At)
theorem TrkG.wide {s s' : Range} {l : List LocateFix} {P : Nat → Int} (h : TrkG s l P) (h1 : s'.Lo ≤ s.Lo) (h2 : s.Hi ≤ s'.Hi) : TrkG s' l P where
  fix := h.fix
  stp k hk := by
    obtain ⟨a, b, c⟩ := h.stp k hk
    have m1 := Int.mul_le_mul_of_nonneg_right h1 (show 0 ≤ l[k + 1].At - l[k].At by omega)
    have m2 := Int.mul_le_mul_of_nonneg_right h2 (show 0 ≤ l[k + 1].At - l[k].At by omega)
    exact ⟨a, by omega, by omega⟩
theorem TrkG.ok {s : Range} {l : List LocateFix} {P : Nat → Int} (h : TrkG s l P) (k : Nat) (hk : k < l.length) : fxO l k = none := by
  obtain ⟨h1, h2, h3, _, _⟩ := h.fix k hk
  have hg : l.getD k default = l[k] := by simp [List.getD, hk]
  have hlast : lastAt l k ≤ l[k].At := by
    cases k with
    | zero => exact h1
    | succ j =>
      obtain ⟨ht, _, _⟩ := h.stp j hk
      have hj : l.getD j default = l[j] := by simp [List.getD, show j < l.length by omega]
      simp only [lastAt, hj]
      exact ht
  unfold fxO fxE
  rw [hg, tiE_of ⟨h1, h2⟩, rgE_0.2 h3]
  simp [hlast]
theorem mvR_inG {lo hi p q t : Int} {s : Range} (h1 : lo ≤ p) (h2 : p ≤ hi) (h3 : s.Lo * t ≤ 1000 * (q - p)) (h4 : 1000 * (q - p) ≤ s.Hi * t) : (mvR ⟨lo, hi⟩ s t).Lo ≤ q ∧ q ≤ (mvR ⟨lo, hi⟩ s t).Hi := by
  unfold mvR
  simp only
  generalize s.Lo * t = a at *
  generalize s.Hi * t = b at *
  omega
theorem follow1_trkG {l : List LocateFix} {s : Range} {P : Nat → Int} (hl : l.length ≤ 40) (hp : Oks s) (ht : TrkG s l P) (h0 : 0 < l.length) :
    Runs (loop (locate_Follow_s1 s l) (1, l[0].Place.Lo, l[0].Place.Hi)) fun o => ∃ lo hi, o = .inr (lo, hi) ∧ lo ≤ P (l.length - 1) ∧ P (l.length - 1) ≤ hi := by
  obtain ⟨_, _, ⟨g1, g2, g3⟩, g4, g5⟩ := ht.fix 0 h0
  refine Runs.loop (fun s => FI l.length s ∧ s.2.1 ≤ P (s.1.toNat - 1) ∧ P (s.1.toNat - 1) ≤ s.2.2) (fun s => l.length - s.1.toNat) ⟨by unfold FI; simp only; omega, g4, g5⟩ ?_
  rintro ⟨i, lo, hi⟩ ⟨⟨h1, h2, h3, h4, h5, h6⟩, h7, h8⟩
  simp only at h1 h2 h3 h4 h5 h6 h7 h8
  obtain ⟨j, rfl⟩ : ∃ j : Nat, i = ((j + 1 : Nat) : Int) := ⟨(i - 1).toNat, by omega⟩
  have ej : ((j + 1 : Nat) : Int).toNat - 1 = j := by omega
  rw [ej] at h7 h8
  unfold locate_Follow_s1
  simp only
  by_cases hk : j + 1 < l.length
  · have e : w64 (((j + 1 : Nat) : Int) - 1) = (j : Int) := by rw [w64_id (by omega)]; omega
    rw [lt_nat hk, e, idx_nat hk, idx_nat (show j < l.length by omega)]
    obtain ⟨a1, a2, ⟨a3, a4, a5⟩, a6, a7⟩ := ht.fix (j + 1) hk
    obtain ⟨b1, b2, _, _⟩ := ht.fix j (by omega)
    obtain ⟨c1, c2, c3⟩ := ht.stp j hk
    simp only [cond_true, Option.bind_some]
    rw [w64_id (x := l[j + 1].At - l[j].At) (by omega)]
    have m1 := lmoved_ok (x := ⟨lo, hi⟩) (s := s) (t := l[j + 1].At - l[j].At) (by simp only; omega) hp (by omega)
    rw [m1]
    simp only [Option.bind_some]
    have hm := mvR_inG h7 h8 c2 c3
    generalize mvR ⟨lo, hi⟩ s (l[j + 1].At - l[j].At) = r at hm
    generalize hH : (if l[j + 1].Place.Hi < r.Hi then l[j + 1].Place.Hi else r.Hi) = H
    generalize hL : (if r.Lo < l[j + 1].Place.Lo then l[j + 1].Place.Lo else r.Lo) = L
    have g1 : H ≤ l[j + 1].Place.Hi := by rw [← hH]; split <;> omega
    have g2 : l[j + 1].Place.Lo ≤ L := by rw [← hL]; split <;> omega
    have g3 : P (j + 1) ≤ H := by rw [← hH]; split <;> omega
    have g4 : L ≤ P (j + 1) := by rw [← hL]; split <;> omega
    rw [decide_eq_false (by omega), cond_false, w64n (j + 1) (by omega)]
    refine ⟨_, rfl, ⟨?_, ?_⟩, ?_⟩
    · unfold FI; simp only; omega
    · simp only
      rw [show ((j + 1 + 1 : Nat) : Int).toNat - 1 = j + 1 by omega]
      exact ⟨g4, g3⟩
    · simp only; omega
  · have : j + 1 = l.length := by omega
    rw [this, lt_nat_no]
    refine ⟨_, rfl, lo, hi, rfl, ?_⟩
    rw [show l.length - 1 = j by omega]
    exact ⟨h7, h8⟩
theorem Follow_trkG {l : List LocateFix} {s : Range} {P : Nat → Int} (hl : l.length ≤ 40) (h0 : 0 < l.length) (hs : spE s = 0) (ht : TrkG s l P) :
    ∃ r : Range, locate_Follow_spec s l = some (r, 0, 0) ∧ r.Lo ≤ P (l.length - 1) ∧ P (l.length - 1) ≤ r.Hi := by
  unfold locate_Follow_spec
  have t1 : (0 : Int) < (l.length : Int) := by omega
  have t3 : (l.length : Int) ≤ 40 := by omega
  simp only [speedErr_ok, unless_ok, Option.bind_some]
  rw [first_ok _ (by simp)]
  simp only [Option.bind_some]
  have e : frst [spE s, bif decide (0 < (l.length : Int)) then 0 else 10, bif decide ((l.length : Int) ≤ 40) then 0 else 8] = 0 := by simp only [frst, hs, t1, t3, decide_true, cond_true, if_true]
  rw [e, follow0_ok l hl, scan_all (fun i _ h2 => ht.ok i (by omega))]
  have i0 : idx l 0 = some l[0] := idx_nat (k := 0) h0
  simp only [decide_true, Bool.not_true, cond_false, Option.bind_some, jn0, i0]
  obtain ⟨o, ho, lo, hi, rfl, h1, h2⟩ := follow1_trkG hl (spE_0 hs) ht h0
  rw [ho]
  exact ⟨⟨lo, hi⟩, rfl, h1, h2⟩
end Go.Gw
