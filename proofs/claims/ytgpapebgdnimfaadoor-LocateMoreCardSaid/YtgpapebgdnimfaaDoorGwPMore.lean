/- LocateMore answers true. Condition: none. -/
import Derived.Test.YtgpapebgdnimfaaDoorGwLoc15
import Derived.Test.YtgpapebgdnimfaaDoorGwLawLocateMore
set_option maxRecDepth 4096
namespace Go.Gw
open Go
theorem CopyReading_ok (x : LocateReading) (hl : x.Seen.length < 1073741824) : ref04_CopyReading_spec x = some x := by
  unfold ref04_CopyReading_spec; rw [CopyInts_ok _ hl]; rfl
/-- The error of a reading, by a right track. -/
def rrE (t : LocateTrack) (x : LocateReading) : Int := if seenE t x.Seen ≠ 0 then seenE t x.Seen else if 0 ≤ x.Count ∧ x.Count < t.Modulus then 0 else 2
theorem ReadingErr_ok {t : LocateTrack} (h : Rt t) (x : LocateReading) (hl : x.Seen.length < 1073741824) : ref04_ReadingErr_spec t x = some (rrE t x) := by
  have hm := h.m1; have hm2 := h.m2
  unfold ref04_ReadingErr_spec rrE
  rw [SeenErr_ok t _ hl]
  simp only [Option.bind_some, bwithin_ok]
  by_cases h1 : seenE t x.Seen = 0
  · simp only [h1, decide_true, Bool.not_true, cond_false, ne_eq, not_true_eq_false, if_false]
    rw [w64_id (by omega)]
    by_cases h2 : 0 ≤ x.Count ∧ x.Count < t.Modulus
    · have h3 : x.Count ≤ t.Modulus - 1 := by omega
      simp [h2, h3]
    · have h3 : (decide (0 ≤ x.Count) && decide (x.Count ≤ t.Modulus - 1)) = false := by
        rw [Bool.eq_false_iff]; simp only [ne_eq, Bool.and_eq_true, decide_eq_true_eq]; omega
      simp [h2, h3]
  · simp [h1]
theorem plc_mono {t : LocateTrack} (h : Rt t) {i j : Int} (hij : i ≤ j) : (plc t i).Hi ≤ (plc t j).Hi ∧ (plc t i).Lo ≤ (plc t j).Lo := by
  have ht := h.t1
  have := Int.mul_le_mul_of_nonneg_right hij (show 0 ≤ t.Tooth by omega)
  unfold plc; simp only; omega
theorem near_len (t : LocateTrack) (seen : List Int) : (nearL t seen).length ≤ nW t := by
  have key : ∀ n, (rng (fun i (x : List Int) => if dW t i seen ≤ t.Errors then x ++ [(i : Int)] else x) [] n).length ≤ n := by
    intro n
    induction n with
    | zero => simp [rng]
    | succ n ih =>
      simp only [rng]
      split
      · simp; omega
      · omega
  exact key (nW t)
/-- What stands behind n teeth. -/
structure PI (t : LocateTrack) (x : LocateReading) (n : Nat) (a : List Range × Int) : Prop where
  run : ∀ r ∈ a.1, ∃ i j : Nat, i ≤ j ∧ j < n ∧ (∀ k, i ≤ k → k ≤ j → isP t x k = true) ∧ r.Lo = (plc t i).Lo ∧ r.Hi = (plc t j).Hi
  lst : 0 < n → isP t x (n - 1) = true → a.1 ≠ [] ∧ a.2 = ((n - 1 : Nat) : Int)
  fin : a.1 ≠ [] → ∃ r, a.1.getLast? = some r ∧ ∃ m : Nat, a.2 = m ∧ m < n ∧ isP t x m = true ∧ r.Hi = (plc t m).Hi ∧ ∀ i : Nat, i ≤ m → (∀ k, i ≤ k → k ≤ m → isP t x k = true) → r.Lo ≤ (plc t i).Lo
  cov : ∀ i j : Nat, i ≤ j → j < n → (∀ k, i ≤ k → k ≤ j → isP t x k = true) → ∃ r ∈ a.1, r.Lo ≤ (plc t i).Lo ∧ (plc t j).Hi ≤ r.Hi
theorem plc_inj {t : LocateTrack} (h : Rt t) {i j : Nat} (e : (plc t i).Hi = (plc t j).Hi) : i = j := by
  have ht := h.t1
  unfold plc at e
  simp only at e
  rcases Nat.lt_trichotomy i j with hlt | rfl | hgt
  · have := Int.mul_le_mul_of_nonneg_right (show (i : Int) + 1 ≤ j by omega) (show 0 ≤ t.Tooth by omega)
    rw [Int.add_mul] at this
    omega
  · rfl
  · have := Int.mul_le_mul_of_nonneg_right (show (j : Int) + 1 ≤ i by omega) (show 0 ≤ t.Tooth by omega)
    rw [Int.add_mul] at this
    omega
theorem set_last {l : List Range} {y : Range} (h : 0 < l.length) : (l.set (l.length - 1) y).getLast? = some y := by
  rw [List.getLast?_eq_getElem?, List.length_set]
  simp [show l.length - 1 < l.length by omega]
theorem poss_PI {t : LocateTrack} (h : Rt t) (x : LocateReading) : ∀ n : Nat, PI t x n (possS t x n)
  | 0 => ⟨fun r hr => (by cases hr), fun h => (by omega), fun h => absurd rfl h, fun i j _ h => (by omega)⟩
  | n + 1 => by
    have ih := poss_PI h x n
    have e : possS t x (n + 1) = if isP t x n then mg t (possS t x n) n else possS t x n := rfl
    rw [e]
    by_cases hp : isP t x n = true
    · rw [if_pos hp]
      generalize possS t x n = a at ih
      obtain ⟨h1, h2, h3, h4⟩ := ih
      unfold mg
      by_cases hb : 0 < a.1.length ∧ a.2 = (n : Int) - 1
      · rw [if_pos hb]
        have hne : a.1 ≠ [] := by intro h; rw [h] at hb; simp at hb
        obtain ⟨r0, hr0, m, hm, hmn, hpm, hHi, hLo⟩ := h3 hne
        obtain rfl : n = m + 1 := by omega
        have hlast : a.1.getD (a.1.length - 1) rg0 = r0 := by
          rw [List.getLast?_eq_getElem?] at hr0
          simp [List.getD, hr0]
        have hmem : r0 ∈ a.1 := List.mem_of_getLast? hr0
        have hmono := plc_mono h (i := (m : Int)) (j := ((m + 1 : Nat) : Int)) (by omega)
        rw [hlast]
        have hnew := set_last (y := ⟨r0.Lo, (plc t ((m + 1 : Nat) : Int)).Hi⟩) hb.1
        have hnm := List.mem_of_getLast? hnew
        refine ⟨?_, fun _ _ => ⟨List.ne_nil_of_mem hnm, rfl⟩, fun _ => ⟨_, hnew, m + 1, rfl, by omega, hp, rfl, ?_⟩, ?_⟩
        · intro r hr
          rcases List.mem_or_eq_of_mem_set hr with hr | rfl
          · obtain ⟨i, j, q1, q2, q3⟩ := h1 r hr
            exact ⟨i, j, q1, by omega, q3⟩
          · obtain ⟨i, j, q1, q2, q3, q4, q5⟩ := h1 r0 hmem
            have : j = m := plc_inj h (q5.symm.trans hHi)
            subst this
            refine ⟨i, j + 1, by omega, by omega, fun k k1 k2 => ?_, q4, rfl⟩
            rcases Nat.lt_or_ge j k with k3 | k3
            · obtain rfl : k = j + 1 := by omega
              exact hp
            · exact q3 k k1 k3
        · intro i hi hk
          simp only
          rcases Nat.lt_or_ge m i with k3 | k3
          · obtain rfl : i = m + 1 := by omega
            have := hLo m (Nat.le_refl _) (fun k k1 k2 => by obtain rfl : k = m := by omega
                                                             exact hpm)
            omega
          · exact hLo i k3 (fun k k1 k2 => hk k k1 (by omega))
        · intro i j hij hj hk
          rcases Nat.lt_or_ge m j with k3 | k3
          · obtain rfl : j = m + 1 := by omega
            refine ⟨_, hnm, ?_, Int.le_refl _⟩
            simp only
            rcases Nat.lt_or_ge m i with k4 | k4
            · obtain rfl : i = m + 1 := by omega
              have := hLo m (Nat.le_refl _) (fun k k1 k2 => by obtain rfl : k = m := by omega
                                                               exact hpm)
              omega
            · exact hLo i k4 (fun k k1 k2 => hk k k1 (by omega))
          · obtain ⟨r, hr, q1, q2⟩ := h4 i j hij (by omega) hk
            obtain ⟨u, hu, rfl⟩ := List.getElem_of_mem hr
            by_cases hj2 : u = a.1.length - 1
            · subst hj2
              have e1 : a.1[a.1.length - 1] = r0 := by simpa [List.getD, show a.1.length - 1 < a.1.length by omega] using hlast
              rw [e1] at q1 q2
              exact ⟨_, hnm, q1, by simp only; omega⟩
            · exact ⟨a.1[u], by
                have : (a.1.set (a.1.length - 1) ⟨r0.Lo, (plc t ((m + 1 : Nat) : Int)).Hi⟩)[u]'(by rw [List.length_set]; exact hu) = a.1[u] := List.getElem_set_ne (by omega) _
                exact this ▸ List.getElem_mem _, q1, q2⟩
      · rw [if_neg hb]
        have hno : 0 < n → isP t x (n - 1) ≠ true := by
          intro h0 h5
          obtain ⟨q1, q2⟩ := h2 h0 h5
          have := List.length_pos_iff.2 q1
          omega
        refine ⟨?_, fun _ _ => ⟨by simp, by simp⟩, fun _ => ⟨plc t n, by simp, n, rfl, by omega, hp, rfl, ?_⟩, ?_⟩
        · intro r hr
          rcases List.mem_append.1 hr with hr | hr
          · obtain ⟨i, j, q1, q2, q3⟩ := h1 r hr
            exact ⟨i, j, q1, by omega, q3⟩
          · obtain rfl : r = plc t n := by simpa using hr
            exact ⟨n, n, Nat.le_refl _, by omega, fun k k1 k2 => by obtain rfl : k = n := by omega
                                                                    exact hp, rfl, rfl⟩
        · intro i hi hk
          rcases Nat.lt_or_ge i n with k3 | k3
          · exact absurd (hk (n - 1) (by omega) (by omega)) (hno (by omega))
          · obtain rfl : i = n := by omega
            exact Int.le_refl _
        · intro i j hij hj hk
          rcases Nat.lt_or_ge j n with k3 | k3
          · obtain ⟨r, hr, q⟩ := h4 i j hij k3 hk
            exact ⟨r, List.mem_append_left _ hr, q⟩
          · obtain rfl : j = n := by omega
            rcases Nat.lt_or_ge i j with k4 | k4
            · exact absurd (hk (j - 1) (by omega) (by omega)) (hno (by omega))
            · obtain rfl : i = j := by omega
              exact ⟨plc t i, by simp, Int.le_refl _, Int.le_refl _⟩
    · rw [if_neg hp]
      generalize possS t x n = a at ih
      obtain ⟨h1, h2, h3, h4⟩ := ih
      refine ⟨?_, fun _ h5 => absurd h5 hp, ?_, ?_⟩
      · intro r hr
        obtain ⟨i, j, q1, q2, q3⟩ := h1 r hr
        exact ⟨i, j, q1, by omega, q3⟩
      · intro hne
        obtain ⟨r, hr, m, q1, q2, q3⟩ := h3 hne
        exact ⟨r, hr, m, q1, by omega, q3⟩
      · intro i j hij hj hk
        rcases Nat.lt_or_ge j n with k3 | k3
        · exact h4 i j hij k3 hk
        · obtain rfl : j = n := by omega
          exact absurd (hk j hij (Nat.le_refl _)) hp
/-- A track that allows more. -/
structure Wider (t t' : LocateTrack) : Prop where
  hv : t'.Vanes = t.Vanes
  hw : t'.Window = t.Window
  ht : t'.Tooth = t.Tooth
  hp : t'.PerVane = t.PerVane
  hf : t'.First = t.First
  hm : t'.Modulus = t.Modulus
  hr : t'.Round = t.Round
  hs : t.Slack ≤ t'.Slack
  hs2 : t'.Slack ≤ t.Modulus
  he : t.Errors ≤ t'.Errors
  he2 : t'.Errors ≤ t.Window
theorem Wider.rt {t t' : LocateTrack} (h : Wider t t') (hR : Rt t) : Rt t' := by
  obtain ⟨h1, h2, h3, h4, h5, h6, h7, h8, h9, h10, h11⟩ := h
  obtain ⟨a1, a2, a3, a4, a5, a6, a7, a8, a9, b1, b2, b3, b4, b5, b6, b7, b8⟩ := hR
  constructor <;> first | omega | (rw [h1]; exact a5) | (rw [h1]; omega)
theorem Wider.nW {t t' : LocateTrack} (h : Wider t t') : Gw.nW t' = Gw.nW t := by unfold Gw.nW; rw [h.hr, h.hv, h.hw]
theorem Wider.nT {t t' : LocateTrack} (h : Wider t t') : Gw.nT t' = Gw.nT t := by unfold Gw.nT; rw [h.nW, h.hp]
theorem Wider.plc {t t' : LocateTrack} (h : Wider t t') (i : Int) : Gw.plc t' i = Gw.plc t i := by unfold Gw.plc; rw [h.hf, h.ht]
theorem Wider.dW {t t' : LocateTrack} (h : Wider t t') (i : Nat) (l : List Int) : Gw.dW t' i l = Gw.dW t i l := by
  have : winV t' i = winV t i := by funext j; unfold winV; rw [h.hv]
  unfold Gw.dW; rw [this, h.hw]
theorem Wider.isP {t t' : LocateTrack} (h : Wider t t') {x : LocateReading} {k i : Nat} (hp : Gw.isP t x i = true) : Gw.isP t' ⟨x.Seen.set k 2, x.Count⟩ i = true := by
  unfold Gw.isP at hp ⊢
  simp only [Bool.and_eq_true, decide_eq_true_eq] at hp ⊢
  obtain ⟨h1, h2⟩ := hp
  rw [h.hp, h.dW]
  constructor
  · have := dW_hide t (i / t.PerVane.toNat) x.Seen k
    have := h.he
    omega
  · unfold fitB at h2 ⊢
    rw [h.hm]
    simp only [Bool.or_eq_true, decide_eq_true_eq] at h2 ⊢
    have := h.hs
    omega
theorem more0_ok (a b : List Int × Int) (ha : a.1.length < 1073741824) (hb : b.1.length < 1073741824) (hs : ∀ v ∈ a.1, v ∈ b.1) : loop (law04_LocateMore_s0 a b) 0 = some (.inr ()) := by
  rw [loop_srch a.1 (fun v => !(b.1.any fun u => decide (u = v))) (fun _ _ => false)]
  · have : srch (fun v => !(b.1.any fun u => decide (u = v))) (fun (_ : Nat) (_ : Int) => false) 0 a.1 = .inr () := srch_none.2 fun v hv => by
      have : (b.1.any fun u => decide (u = v)) = true := List.any_eq_true.2 ⟨v, hs v hv, by simp⟩
      rw [this]; rfl
    rw [this]
  · intro k hk
    unfold law04_LocateMore_s0
    rw [lt_nat hk, idx_nat hk, w64n k (by omega)]
    simp only [cond_true, Option.bind_some]
    rw [Has_ok _ _ hb]; rfl
  · unfold law04_LocateMore_s0
    rw [lt_nat_no]; rfl
theorem more1_ok (a b : List Range × Int) (k : Nat) (hk : k < a.1.length) (hb : b.1.length < 1073741824) : loop (law04_LocateMore_s1 a b (k : Int)) (false, 0) = some (b.1.any fun y => decide (y.Lo ≤ a.1[k].Lo) && decide (a.1[k].Hi ≤ y.Hi)) := by
  have h := loop_fld (step := law04_LocateMore_s1 a b (k : Int)) b.1 (fun _ (c : Bool) y => c || (decide (y.Lo ≤ a.1[k].Lo) && decide (a.1[k].Hi ≤ y.Hi))) (fun c k => (c, (k : Int))) (fun c => c) (fun _ _ => True) false trivial (fun j hj c _ => ⟨?_, trivial⟩) (fun c _ => ?_)
  · have e : ∀ (l : List Range) (j : Nat) (c : Bool), fld (fun _ (c : Bool) y => c || (decide (y.Lo ≤ a.1[k].Lo) && decide (a.1[k].Hi ≤ y.Hi))) j c l = (c || l.any fun y => decide (y.Lo ≤ a.1[k].Lo) && decide (a.1[k].Hi ≤ y.Hi)) := by
      intro l
      induction l with
      | nil => intro k a; simp [fld]
      | cons x l ih => intro k a; simp only [fld]; rw [ih]; simp [List.any_cons, Bool.or_assoc]
    have := h.1
    rw [e] at this
    simpa using this
  · unfold law04_LocateMore_s1
    simp only
    rw [lt_nat hj, cond_true, idx_nat hj, idx_nat hk]
    cases c
    · simp only [Bool.not_false, cond_true, Option.bind_some, Bool.true_and, Bool.false_or]
      rw [w64n j (by omega)]
      cases decide (b.1[j].Lo ≤ a.1[k].Lo) <;> rfl
    · simp only [Bool.not_true, cond_false, Option.bind_some, Bool.false_and, Bool.true_or]
      rw [w64n j (by omega)]
  · unfold law04_LocateMore_s1
    simp only
    rw [lt_nat_no]; rfl
theorem more2_ok (a b : List Range × Int) (ha : a.1.length < 1073741824) (hb : b.1.length < 1073741824) (hs : ∀ r ∈ a.1, ∃ y ∈ b.1, y.Lo ≤ r.Lo ∧ r.Hi ≤ y.Hi) : loop (law04_LocateMore_s2 a b) 0 = some (.inr ()) := by
  rw [loop_srch a.1 (fun r => !(b.1.any fun y => decide (y.Lo ≤ r.Lo) && decide (r.Hi ≤ y.Hi))) (fun _ _ => false)]
  · have : srch (fun r => !(b.1.any fun y => decide (y.Lo ≤ r.Lo) && decide (r.Hi ≤ y.Hi))) (fun (_ : Nat) (_ : Range) => false) 0 a.1 = .inr () := srch_none.2 fun r hr => by
      obtain ⟨y, hy, h1, h2⟩ := hs r hr
      have : (b.1.any fun y => decide (y.Lo ≤ r.Lo) && decide (r.Hi ≤ y.Hi)) = true := List.any_eq_true.2 ⟨y, hy, by simp [h1, h2]⟩
      rw [this]; rfl
    rw [this]
  · intro k hk
    unfold law04_LocateMore_s2
    rw [lt_nat hk, cond_true, more1_ok a b k hk hb, Option.bind_some, w64n k (by omega)]
  · unfold law04_LocateMore_s2
    rw [lt_nat_no]; rfl
theorem LocateMore_true (t : LocateTrack) (x : LocateReading) (m : Arr3_Int) : law04_LocateMore_spec t x m = some true := by
  unfold law04_LocateMore_spec law04_Short_spec
  rw [awake_ok]
  simp only [Option.bind_some, Bool.not_true, cond_false]
  by_cases hs : (decide ((t.Vanes.length : Int) ≤ 16) || (decide (40 < (t.Vanes.length : Int)) && decide ((t.Vanes.length : Int) ≤ 42))) = true
  · have ht : t.Vanes.length < 1073741824 := by
      simp only [Bool.or_eq_true, Bool.and_eq_true, decide_eq_true_eq] at hs; omega
    rw [hs]
    by_cases hl : (x.Seen.length : Int) ≤ 14
    · have hxl : x.Seen.length < 1073741824 := by omega
      rw [decide_eq_false (show ¬ 14 < (x.Seen.length : Int) by omega)]
      simp only [Bool.not_true, Bool.or_self, Bool.not_false, cond_true, Bool.false_or]
      rw [TrackErr_ok t ht]
      simp only [Option.bind_some]
      by_cases h : (chk t).2 = 0
      · have hR := chk_rt h
        have hw1 := hR.w1; have hw2 := hR.w2; have he1 := hR.e1; have he2 := hR.e2
        have hm1 := hR.m1; have hm2 := hR.m2; have hs1 := hR.s1; have hs2 := hR.s2
        have hn := nW_le hR
        have hnT := nT_le hR
        simp only [h, decide_true, Bool.not_true, Bool.not_false, cond_true]
        rw [ReadingErr_ok hR x hxl, Option.bind_some]
        by_cases hr : rrE t x = 0
        · have hrd : rdE t x = 0 := by
            unfold rdE opE; unfold rrE at hr
            rw [if_neg (show ¬ (chk t).2 ≠ 0 by simpa using h)]; exact hr
          obtain ⟨_, hRr⟩ := rdE_rr hrd
          have hop : opE t x.Seen = 0 := by
            unfold rdE at hrd
            by_cases h0 : opE t x.Seen = 0
            · exact h0
            · rw [if_pos h0] at hrd; exact hrd
          simp only [hr, decide_true, Bool.not_true, cond_false]
          rw [Copy_ok t ht]
          simp only [Option.bind_some]
          generalize hS : (if t.Slack < (if m.e1 < t.Modulus then m.e1 else t.Modulus) then (if m.e1 < t.Modulus then m.e1 else t.Modulus) else t.Slack) = S
          generalize hE : (if t.Errors < (if m.e0 < t.Window then m.e0 else t.Window) then (if m.e0 < t.Window then m.e0 else t.Window) else t.Errors) = E
          have hS1 : t.Slack ≤ S ∧ S ≤ t.Modulus := by
            have hb : (if m.e1 < t.Modulus then m.e1 else t.Modulus) ≤ t.Modulus := by split <;> omega
            generalize (if m.e1 < t.Modulus then m.e1 else t.Modulus) = b at hS hb
            rw [← hS]
            split <;> omega
          have hE1 : t.Errors ≤ E ∧ E ≤ t.Window := by
            have hb : (if m.e0 < t.Window then m.e0 else t.Window) ≤ t.Window := by split <;> omega
            generalize (if m.e0 < t.Window then m.e0 else t.Window) = b at hE hb
            rw [← hE]
            split <;> omega
          have hW : Wider t ⟨t.Vanes, t.Window, t.Tooth, t.PerVane, t.First, t.Modulus, S, E, t.Round⟩ := ⟨rfl, rfl, rfl, rfl, rfl, rfl, rfl, hS1.1, hS1.2, hE1.1, hE1.2⟩
          have hR' := hW.rt hR
          have hc' := rt_chk hR'
          generalize (⟨t.Vanes, t.Window, t.Tooth, t.PerVane, t.First, t.Modulus, S, E, t.Round⟩ : LocateTrack) = t' at hW hR' hc'
          have ht' : t'.Vanes.length < 1073741824 := by rw [hW.hv]; exact ht
          rw [CopyReading_ok x hxl, Option.bind_some, Mod_ok hw1 (by omega), Option.bind_some]
          have m0 := Int.emod_nonneg m.e2 (show t.Window ≠ 0 by omega)
          have m1 := Int.emod_lt_of_pos m.e2 (show 0 < t.Window by omega)
          generalize m.e2 % t.Window = q at m0 m1
          obtain ⟨k, rfl⟩ : ∃ k : Nat, q = k := ⟨q.toNat, by omega⟩
          have hxw := hRr.l
          have hk : k < x.Seen.length := by omega
          rw [idx_nat hk, Option.bind_some, Int.toNat_natCast, CopyInts_ok _ hxl, Option.bind_some, Near_ok t _ ht hxl, if_pos hop, Option.bind_some, Copy_ok t' ht', Option.bind_some, CopyInts_ok _ (by rw [List.length_set]; exact hxl), Option.bind_some]
          have hval : ∀ v ∈ x.Seen.set k 2, v = 0 ∨ v = 1 ∨ v = 2 := by
            intro v hv
            rcases set_mem hv with h | rfl
            · exact hRr.s v h
            · exact .inr (.inr rfl)
          have hop' : opE t' (x.Seen.set k 2) = 0 := by
            unfold opE seenE
            rw [if_neg (by rw [hc']; simp), if_neg (by rw [List.length_set, hW.hw]; simpa using hxw), if_neg]
            rw [List.any_eq_true]
            rintro ⟨v, hv, hnv⟩
            rw [isS_iff.2 (hval v hv)] at hnv
            cases hnv
          have hrd' : rdE t' ⟨x.Seen.set k 2, x.Count⟩ = 0 := by
            unfold rdE
            rw [if_neg (by simpa using hop'), if_pos (by rw [hW.hm]; exact ⟨hRr.c1, hRr.c2⟩)]
          have hsl : (x.Seen.set k 2).length < 1073741824 := by rw [List.length_set]; exact hxl
          rw [Near_ok t' _ ht' hsl, if_pos hop']
          simp only [Option.bind_some, Bool.or_self, cond_false]
          rw [Possible_ok t x ht hxl, if_pos hrd, Possible_ok t' _ ht' hsl, if_pos hrd']
          simp only [Option.bind_some, decide_true, Bool.not_true, Bool.or_self, cond_false]
          have n1 := near_len t x.Seen
          have n2 := near_len t' (x.Seen.set k 2)
          rw [hW.nW] at n2
          have p1 : (possL t x).length ≤ nT t := (possS_len t x (nT t)).1
          have p2 : (possL t' ⟨x.Seen.set k 2, x.Count⟩).length ≤ nT t' := (possS_len t' _ (nT t')).1
          rw [hW.nT] at p2
          rw [more0_ok _ _ (by simp only; omega) (by simp only; omega) ?_, Option.bind_some]
          · simp only [jn0]
            rw [more2_ok _ _ (by simp only; omega) (by simp only; omega) ?_]
            · rfl
            · intro r hr
              obtain ⟨i, j, q1, q2, q3, q4, q5⟩ := (poss_PI hR x (nT t)).run r hr
              obtain ⟨y, hy, y1, y2⟩ := (poss_PI hR' ⟨x.Seen.set k 2, x.Count⟩ (nT t')).cov i j q1 (by rw [hW.nT]; exact q2) (fun u u1 u2 => hW.isP (q3 u u1 u2))
              rw [hW.plc] at y1 y2
              exact ⟨y, hy, by omega, by omega⟩
          · intro v hv
            obtain ⟨i, h1, h2, h3⟩ := near_mem.1 hv
            refine near_mem.2 ⟨i, by rw [hW.nW]; exact h1, h2, ?_⟩
            rw [hW.dW]
            have := dW_hide t i x.Seen k
            have := hW.he
            omega
        · simp [hr]
      · simp [h]
    · rw [decide_eq_true (show 14 < (x.Seen.length : Int) by omega)]
      rfl
  · have : (decide ((t.Vanes.length : Int) ≤ 16) || (decide (40 < (t.Vanes.length : Int)) && decide ((t.Vanes.length : Int) ≤ 42))) = false := by
      cases h : (decide ((t.Vanes.length : Int) ≤ 16) || (decide (40 < (t.Vanes.length : Int)) && decide ((t.Vanes.length : Int) ≤ 42)))
      · rfl
      · exact absurd h hs
    rw [this]; rfl
end Go.Gw
