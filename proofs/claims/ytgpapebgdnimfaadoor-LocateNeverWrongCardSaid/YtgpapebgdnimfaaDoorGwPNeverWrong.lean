/- LocateNeverWrong answers true. Condition: none. -/
import Derived.Test.YtgpapebgdnimfaaDoorGwLoc15
import Derived.Test.YtgpapebgdnimfaaDoorGwLawLocateNeverWrong
set_option maxRecDepth 4096
namespace Go.Gw
open Go
theorem nw0_eq (t : LocateTrack) (p : guidewaylaw04_Spoilt) : law04_LocateNeverWrong_s0 t p = flipS t p := rfl
theorem nw1_eq (t : LocateTrack) (p : guidewaylaw04_Spoilt) : law04_LocateNeverWrong_s1 t p = hideS t p := rfl
theorem CopyReading_ok (x : LocateReading) (hl : x.Seen.length < 1073741824) : ref04_CopyReading_spec x = some x := by
  unfold ref04_CopyReading_spec; rw [CopyInts_ok _ hl]; rfl
/-- The count off by up to the slack fits. -/
theorem fit_off {t : LocateTrack} (h : Rt t) {too off : Int} (h1 : -t.Slack ≤ off) (h2 : off ≤ t.Slack) : fitB t too ((too + off) % t.Modulus) = true := by
  have hm := h.m1; have hs := h.s1; have hs2 := h.s2
  unfold fitB
  have e : (too - (too + off) % t.Modulus) % t.Modulus = (-off) % t.Modulus := by
    have h3 := Int.mul_ediv_add_emod (too + off) t.Modulus
    have h4 : too - (too + off) % t.Modulus = -off + t.Modulus * ((too + off) / t.Modulus) := by omega
    rw [h4, Int.add_mul_emod_self_left]
  rw [e]
  simp only [Bool.or_eq_true, decide_eq_true_eq]
  rcases Int.lt_or_le 0 off with h5 | h5
  · rcases Int.lt_or_le off t.Modulus with h6 | h6
    · have h7 : (-off) % t.Modulus = t.Modulus - off := by
        rw [show -off = (t.Modulus - off) + t.Modulus * (-1) by omega, Int.add_mul_emod_self_left, Int.emod_eq_of_lt (by omega) (by omega)]
      omega
    · have h7 : off = t.Modulus := by omega
      subst h7
      left
      rw [Int.neg_emod_self]; exact hs
  · rcases Int.lt_or_le (-off) t.Modulus with h6 | h6
    · rw [Int.emod_eq_of_lt (by omega) h6]; omega
    · have h7 : -off = t.Modulus := by omega
      rw [h7, Int.emod_self]; omega
theorem plc_mono {t : LocateTrack} (h : Rt t) {i j : Int} (hij : i ≤ j) : (plc t i).Hi ≤ (plc t j).Hi ∧ (plc t i).Lo ≤ (plc t j).Lo := by
  have ht := h.t1
  have := Int.mul_le_mul_of_nonneg_right hij (show 0 ≤ t.Tooth by omega)
  unfold plc; simp only; omega
theorem poss_cover {t : LocateTrack} (h : Rt t) (x : LocateReading) : ∀ n : Nat,
    ((possS t x n).1 ≠ [] → ∃ r ∈ (possS t x n).1.getLast?, r.Lo ≤ (plc t (possS t x n).2).Lo ∧ r.Hi = (plc t (possS t x n).2).Hi) ∧
    (∀ k, k < n → isP t x k = true → ∃ r ∈ (possS t x n).1, r.Lo ≤ (plc t k).Lo ∧ (plc t k).Hi ≤ r.Hi)
  | 0 => ⟨fun h => absurd rfl h, fun k hk => by omega⟩
  | n + 1 => by
    obtain ⟨h1, h2⟩ := poss_cover h x n
    have hS := possS_len t x n
    have e : possS t x (n + 1) = if isP t x n then mg t (possS t x n) n else possS t x n := rfl
    rw [e]
    by_cases hp : isP t x n = true
    · rw [if_pos hp]
      generalize possS t x n = a at *
      unfold mg
      by_cases hb : 0 < a.1.length ∧ a.2 = (n : Int) - 1
      · rw [if_pos hb]
        obtain ⟨r0, hr0, hr1, hr2⟩ := h1 (by intro h; rw [h] at hb; simp at hb)
        have hne : a.1 ≠ [] := by intro h; rw [h] at hb; simp at hb
        have hlast : a.1.getD (a.1.length - 1) rg0 = r0 := by
          rw [List.getLast?_eq_getElem?] at hr0
          simp only [Option.mem_def] at hr0
          simp [List.getD, hr0]
        have hmono := plc_mono h (i := a.2) (j := (n : Int)) (by omega)
        rw [hlast]
        have hnew : ∀ y : Range, (a.1.set (a.1.length - 1) y).getLast? = some y := by
          intro y
          rw [List.getLast?_eq_getElem?, List.length_set]
          simp [show a.1.length - 1 < a.1.length by omega]
        refine ⟨fun _ => ⟨⟨r0.Lo, (plc t n).Hi⟩, by rw [Option.mem_def]; exact hnew _, by simp only; omega, rfl⟩, fun k hk hpk => ?_⟩
        rcases Nat.lt_or_ge k n with hk2 | hk2
        · obtain ⟨r, hr, hr3, hr4⟩ := h2 k hk2 hpk
          obtain ⟨j, hj, rfl⟩ := List.getElem_of_mem hr
          by_cases hj2 : j = a.1.length - 1
          · subst hj2
            have e1 : a.1[a.1.length - 1] = r0 := by simpa [List.getD, show a.1.length - 1 < a.1.length by omega] using hlast
            rw [e1] at hr3 hr4
            refine ⟨⟨r0.Lo, (plc t n).Hi⟩, List.mem_of_getLast? (hnew _), hr3, ?_⟩
            simp only; omega
          · exact ⟨a.1[j], by
              have : (a.1.set (a.1.length - 1) ⟨r0.Lo, (plc t n).Hi⟩)[j]'(by rw [List.length_set]; exact hj) = a.1[j] := List.getElem_set_ne (by omega) _
              exact this ▸ List.getElem_mem _, hr3, hr4⟩
        · obtain rfl : k = n := by omega
          refine ⟨⟨r0.Lo, (plc t k).Hi⟩, List.mem_of_getLast? (hnew _), ?_, Int.le_refl _⟩
          simp only; omega
      · rw [if_neg hb]
        refine ⟨fun _ => ⟨plc t n, by simp, Int.le_refl _, rfl⟩, fun k hk hpk => ?_⟩
        rcases Nat.lt_or_ge k n with hk2 | hk2
        · obtain ⟨r, hr, hr3⟩ := h2 k hk2 hpk
          exact ⟨r, List.mem_append_left _ hr, hr3⟩
        · obtain rfl : k = n := by omega
          exact ⟨plc t k, by simp, Int.le_refl _, Int.le_refl _⟩
    · rw [if_neg hp]
      refine ⟨h1, fun k hk hpk => ?_⟩
      rcases Nat.lt_or_ge k n with hk2 | hk2
      · exact h2 k hk2 hpk
      · obtain rfl : k = n := by omega
        exact absurd hpk hp
/-- Is there a range around? -/
def covB (r : Range) (l : List Range) : Bool := l.any fun x => decide (x.Lo ≤ r.Lo) && decide (r.Hi ≤ x.Hi)
theorem nw2_ok (r : Range) (l : List Range × Int) (hl : l.1.length < 1073741824) : loop (law04_LocateNeverWrong_s2 l r.Lo r.Hi) (false, 0) = some (covB r l.1) := by
  have h := loop_fld (step := law04_LocateNeverWrong_s2 l r.Lo r.Hi) l.1 (fun _ (a : Bool) x => a || (decide (x.Lo ≤ r.Lo) && decide (r.Hi ≤ x.Hi))) (fun a k => (a, (k : Int))) (fun a => a) (fun _ _ => True) false trivial (fun k hk a _ => ⟨?_, trivial⟩) (fun a _ => ?_)
  · have e : ∀ (l : List Range) (k : Nat) (a : Bool), fld (fun _ (a : Bool) x => a || (decide (x.Lo ≤ r.Lo) && decide (r.Hi ≤ x.Hi))) k a l = (a || covB r l) := by
      intro l
      unfold covB
      induction l with
      | nil => intro k a; simp [fld]
      | cons x l ih => intro k a; simp only [fld]; rw [ih]; simp [List.any_cons, Bool.or_assoc]
    have := h.1
    rw [e] at this
    simpa using this
  · unfold law04_LocateNeverWrong_s2
    simp only
    rw [lt_nat hk, cond_true, idx_nat hk]
    cases a
    · simp only [Bool.not_false, cond_true, Option.bind_some, Bool.true_and, Bool.false_or]
      rw [w64n k (by omega)]
      cases decide (l.1[k].Lo ≤ r.Lo) <;> rfl
    · simp only [Bool.not_true, cond_false, Option.bind_some, Bool.false_and, Bool.true_or]
      rw [w64n k (by omega)]
  · unfold law04_LocateNeverWrong_s2
    simp only
    rw [lt_nat_no]; rfl
theorem near_len (t : LocateTrack) (seen : List Int) : (nearL t seen).length ≤ nW t := by
  have key : ∀ n, (rng (fun i (x : List Int) => if dW t i seen ≤ t.Errors then x ++ [(i : Int)] else x) [] n).length ≤ n := by
    intro n
    induction n with
    | zero => simp [rng]
    | succ n ih =>
      simp only [rng]
      split
      · simp; omega
      · omega
  exact key (nW t)
theorem LocateNeverWrong_true (t : LocateTrack) (p : guidewaylaw04_Spoilt) : law04_LocateNeverWrong_spec t p = some true := by
  unfold law04_LocateNeverWrong_spec law04_Short_spec
  rw [awake_ok]
  simp only [Option.bind_some, Bool.not_true, cond_false]
  by_cases hs : (decide ((t.Vanes.length : Int) ≤ 16) || (decide (40 < (t.Vanes.length : Int)) && decide ((t.Vanes.length : Int) ≤ 42))) = true
  · have ht : t.Vanes.length < 1073741824 := by
      simp only [Bool.or_eq_true, Bool.and_eq_true, decide_eq_true_eq] at hs; omega
    rw [hs]
    simp only [Bool.not_true, Bool.not_false, cond_true, Bool.false_or]
    rw [TrackErr_ok t ht]
    simp only [Option.bind_some]
    by_cases h : (chk t).2 = 0
    · have hR := chk_rt h
      have hw1 := hR.w1; have hw2 := hR.w2; have he1 := hR.e1; have he2 := hR.e2
      have hm1 := hR.m1; have hm2 := hR.m2; have hs1 := hR.s1; have hs2 := hR.s2
      have hn := nW_le hR
      have hnT := nT_le hR
      simp only [h, decide_true, Bool.not_true, Bool.not_false, cond_true, Bool.false_or]
      rw [ToothErr_ok hR, Option.bind_some]
      by_cases hto : tooE t p.Tooth = 0
      · by_cases hwr : (p.Wrong.length : Int) ≤ t.Errors
        · by_cases hun : (p.Unread.length : Int) ≤ 14
          · rw [hto, decide_eq_false (show ¬ t.Errors < (p.Wrong.length : Int) by omega), decide_eq_false (show ¬ 14 < (p.Unread.length : Int) by omega), w64_id (x := 0 - t.Slack) (by omega)]
            simp only [decide_true, Bool.not_true, Bool.or_self, Bool.not_false, cond_true, bwithin_ok, Option.bind_some, Bool.false_or]
            by_cases hoff : 0 - t.Slack ≤ p.Off ∧ p.Off ≤ t.Slack
            · simp only [hoff.1, hoff.2, decide_true, Bool.and_self, Bool.not_true, cond_false]
              obtain ⟨w, k, hk, hk2, hwk, hw, hq⟩ := only_window hR hto
              have hwinE : winE t w = 0 := by unfold winE; rw [if_pos (by omega)]
              rw [hq, Copy_ok t ht]
              simp only [Option.bind_some]
              have hwl : (winL t w).length = t.Window.toNat := winL_len w
              rw [pWindowAt_ok t w ht, if_pos h, if_pos hwinE, Int.toNat_natCast]
              simp only [Option.bind_some, decide_true, Bool.not_true, Bool.false_or]
              rw [decide_eq_true (show ((winL t w).length : Int) = t.Window by omega)]
              simp only [Bool.not_true, Bool.not_false, cond_true]
              rw [AreBits_ok _ (by omega) (win_bit hR w)]
              simp only [Option.bind_some, Bool.not_true, cond_false]
              rw [CopyInts_ok _ (by omega), Option.bind_some, nw0_eq, nw1_eq]
              obtain ⟨l, hl, hS⟩ := flip_ok hR p w (by omega)
              rw [hl, Option.bind_some]
              obtain ⟨l2, hl2, hS2⟩ := hide_ok hR p w (by omega) hS
              have hlen := hS2.len
              have hl2l : l2.length < 1073741824 := by omega
              rw [hl2, Option.bind_some, hk, w64_id (x := (k : Int) + p.Off) (by omega), Mod_ok hm1 (by omega), Option.bind_some, CopyInts_ok l2 hl2l, Option.bind_some]
              have hop := hS2.err h
              have c0 := Int.emod_nonneg ((k : Int) + p.Off) (show t.Modulus ≠ 0 by omega)
              have c1 := Int.emod_lt_of_pos ((k : Int) + p.Off) (show 0 < t.Modulus by omega)
              have hfit := fit_off hR (too := (k : Int)) (off := p.Off) (by omega) hoff.2
              generalize hC : ((k : Int) + p.Off) % t.Modulus = C at c0 c1 hfit
              have hrd : rdE t ⟨l2, C⟩ = 0 := by
                unfold rdE
                rw [if_neg (by simpa using hop), if_pos ⟨c0, c1⟩]
              rw [Near_ok t l2 ht hl2l, if_pos hop, Option.bind_some]
              simp only [Bool.or_self, cond_false, Option.bind_some]
              rw [Told_ok t l2 ht hl2l, if_pos hop, Option.bind_some, PlacesOf_ok t k ht, if_pos h, if_pos (by rw [← hk]; exact hto), Option.bind_some, CopyReading_ok _ hl2l]
              simp only [Option.bind_some]
              rw [Possible_ok t _ ht hl2l, if_pos hrd, PlaceOf_ok t _ ht hl2l, if_pos hrd]
              simp only [Option.bind_some]
              have hnw : (w : Int) ∈ nearL t l2 := near_mem.2 ⟨w, hw, rfl, by have := hS2.near; omega⟩
              have hhas : ((nearL t l2).any fun v => decide (v = (w : Int))) = true := List.any_eq_true.2 ⟨_, hnw, by simp⟩
              have hnl := near_len t l2
              simp only [decide_true, Bool.not_true, Bool.not_false, cond_true]
              rw [Has_ok _ _ (by omega), hhas]
              have hcov := (poss_cover hR ⟨l2, C⟩ (nT t)).2 k hk2 (by
                unfold isP
                rw [← hwk, hfit, decide_eq_true (show dW t w l2 ≤ t.Errors by have := hS2.near; omega)]; rfl)
              have hpl : (possL t ⟨l2, C⟩).length ≤ nT t := (possS_len t ⟨l2, C⟩ (nT t)).1
              have hcovB : covB (plc t k) (possL t ⟨l2, C⟩) = true := by
                obtain ⟨r, hr, hr1, hr2⟩ := hcov
                exact List.any_eq_true.2 ⟨r, hr, by simp [hr1, hr2]⟩
              rw [nw2_ok (plc t k) _ (by simp only; omega)]
              simp only [Option.bind_some, hcovB, decide_true, Bool.not_true, Bool.or_self, Bool.false_or, Bool.or_false, Bool.true_and]
              have htold : ((!decide ((only1 (nearL t l2) 0).2 = 0)) && (!decide ((only1 (nearL t l2) 0).2 = 29)) || (decide ((only1 (nearL t l2) 0).2 = 0) && !decide ((only1 (nearL t l2) 0).1 = (w : Int)))) = false := by
                unfold only1
                match hnn : nearL t l2 with
                | [] => rw [hnn] at hnw; cases hnw
                | [x] =>
                  rw [hnn] at hnw
                  have : (w : Int) = x := by simpa using hnw
                  simp [this]
                | x :: y :: r => simp
              rw [htold, cond_false]
              congr 1
              unfold onlyR
              obtain ⟨r, hr, hr1, hr2⟩ := hcov
              have hr : r ∈ possL t ⟨l2, C⟩ := hr
              match hpp : possL t ⟨l2, C⟩ with
              | [] => rw [hpp] at hr; cases hr
              | [x] =>
                rw [hpp] at hr
                have : r = x := by simpa using hr
                subst this
                simp [hr1, hr2]
              | x :: y :: r' => simp; omega
            · have : (decide (0 - t.Slack ≤ p.Off) && decide (p.Off ≤ t.Slack)) = false := by rw [Bool.eq_false_iff]; simp only [ne_eq, Bool.and_eq_true, decide_eq_true_eq]; exact hoff
              rw [this]; rfl
          · rw [decide_eq_true (show 14 < (p.Unread.length : Int) by omega)]
            simp only [Bool.or_true, Bool.true_or, Bool.not_true, cond_false, cond_true, Option.bind_some]
        · rw [decide_eq_true (show t.Errors < (p.Wrong.length : Int) by omega)]
          simp only [Bool.or_true, Bool.true_or, Bool.not_true, cond_false, cond_true, Option.bind_some]
      · simp [hto]
    · simp [h]
  · have : (decide ((t.Vanes.length : Int) ≤ 16) || (decide (40 < (t.Vanes.length : Int)) && decide ((t.Vanes.length : Int) ≤ 42))) = false := by
      cases h : (decide ((t.Vanes.length : Int) ≤ 16) || (decide (40 < (t.Vanes.length : Int)) && decide ((t.Vanes.length : Int) ≤ 42)))
      · rfl
      · exact absurd h hs
    rw [this]; rfl
end Go.Gw
