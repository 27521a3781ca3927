/- LocateJustIf answers true. Condition: none. -/
import Derived.Test.YtgpapebgdnimfaaDoorGwLoc14
import Derived.Test.YtgpapebgdnimfaaDoorGwLoc15
import Derived.Test.YtgpapebgdnimfaaDoorGwLawLocateJustIf
set_option maxRecDepth 4096
namespace Go.Gw
open Go
theorem just1_eq (t : LocateTrack) (p : guidewaylaw04_Spoilt) : law04_LocateJustIf_s1 t p = flipS t p := rfl
theorem just2_eq (t : LocateTrack) (p : guidewaylaw04_Spoilt) : law04_LocateJustIf_s2 t p = hideS t p := rfl
/-- What is spare. -/
def spareV (t : LocateTrack) (f : Bool) (d : Int) : Int := if f then d - 2 * t.Errors - 1 else t.Window
theorem counted116_ok {t : LocateTrack} (ht : t.Vanes.length < 1073741824) (hc : (chk t).2 = 0) : ∃ f d p q, locate_track_distance_spec ⟨t⟩ = some (⟨d, ⟨p, q⟩⟩, f) ∧ 0 ≤ d ∧ d ≤ 12 ∧ locate_counted_116_spec t = some (spareV t f d, 0) ∧ Best (dP t) (PS (nW t) 0) f d p q := by
  unfold locate_counted_116_spec
  rw [open_ok t ht]
  simp only [Option.bind_some]
  have hR := chk_rt hc
  obtain ⟨f, d, p, q, h1, h2, h3, h4, hB⟩ := dist_same hR
  refine ⟨f, d, p, q, h1, h3, h4, ?_, hB⟩
  simp only [hc, decide_true, Bool.not_true, cond_false]
  unfold locate_track_spare_spec
  simp only
  rw [h1]
  have := hR.e1; have := hR.e2; have := hR.w2
  unfold spareV
  cases f
  · rfl
  · simp only [Option.bind_some, Bool.not_true, cond_false, if_true]
    rw [w64_id (x := 2 * t.Errors) (by omega), w64_id (x := d - 2 * t.Errors) (by omega), w64_id (x := d - 2 * t.Errors - 1) (by omega)]
/-- Window p up to k from window q. -/
def mix (t : LocateTrack) (p q k : Nat) : List Int := (List.range t.Window.toNat).map fun j => if j < k then winV t q j else winV t p j
theorem mix_len (t : LocateTrack) (p q k : Nat) : (mix t p q k).length = t.Window.toNat := by simp [mix]
theorem mix_getElem (t : LocateTrack) (p q k j : Nat) (h : j < (mix t p q k).length) : (mix t p q k)[j] = if j < k then winV t q j else winV t p j := by simp [mix]
theorem mix_get {t : LocateTrack} {p q k j : Nat} (h : j < t.Window.toNat) : (mix t p q k).getD j 0 = if j < k then winV t q j else winV t p j := by
  rw [getD_in (by rw [mix_len]; exact h), mix_getElem]
theorem mix_same {t : LocateTrack} {p q k : Nat} (h : winV t p k = winV t q k) : mix t p q (k + 1) = mix t p q k := by
  unfold mix
  apply List.map_congr_left
  intro j _
  by_cases h1 : j < k
  · rw [if_pos h1, if_pos (by omega)]
  · by_cases h2 : j = k
    · subst h2; rw [if_neg h1, if_pos (by omega), h]
    · rw [if_neg h1, if_neg (by omega)]
theorem mix_set {t : LocateTrack} {p q k : Nat} : mix t p q (k + 1) = (mix t p q k).set k (winV t q k) := by
  apply List.ext_getElem
  · rw [List.length_set, mix_len, mix_len]
  · intro j h1 h2
    rw [List.getElem_set, mix_getElem, mix_getElem]
    by_cases h3 : k = j
    · subst h3; rw [if_pos rfl, if_pos (by omega)]
    · rw [if_neg h3]
      by_cases h4 : j < k
      · rw [if_pos h4, if_pos (by omega)]
      · rw [if_neg h4, if_neg (by omega)]
theorem bit_dd {t : LocateTrack} (h : Rt t) (p q k : Nat) : dd (winV t p k) (winV t q k) = !decide (winV t p k = winV t q k) := by
  rcases winV_bit h p k with h1 | h1 <;> rcases winV_bit h q k with h2 | h2 <;> rw [h1, h2] <;> decide
theorem mix_p {t : LocateTrack} (p q k : Nat) (hk : k ≤ t.Window.toNat) : dW t p (mix t p q k) = cnt (winV t p) (winV t q) k := by
  unfold dW
  rw [cnt_tail (n := k) hk]
  · exact cnt_congr fun j hj => ⟨rfl, by rw [mix_get (by omega), if_pos hj]⟩
  · intro j h1 h2
    rw [mix_get h2, if_neg (by omega)]
    unfold dd; simp
theorem mix_q {t : LocateTrack} (p q k : Nat) : ∀ n, n ≤ t.Window.toNat → cnt (winV t q) (fun j => (mix t p q k).getD j 0) n = cnt (winV t p) (winV t q) n - cnt (winV t p) (winV t q) (if n ≤ k then n else k)
  | 0, _ => by simp [cnt, rng]
  | n + 1, h => by
    have ih := mix_q (t := t) p q k n (by omega)
    rw [cnt_succ, ih, mix_get (t := t) (p := p) (q := q) (k := k) (j := n) (by omega)]
    by_cases h1 : n < k
    · rw [if_pos h1, if_pos (show n ≤ k by omega), if_pos (show n + 1 ≤ k by omega)]
      have : dd (winV t q n) (winV t q n) = false := by unfold dd; simp
      rw [this]; simp only [Bool.false_eq_true, if_false]; omega
    · rw [if_neg h1, if_neg (show ¬ n + 1 ≤ k by omega), cnt_succ, dd_comm]
      have : (if n ≤ k then n else k) = k := by split <;> omega
      rw [this]
      split <;> omega
theorem just0_ok {t : LocateTrack} (h : Rt t) (p q : Nat) {m : Int} (hm : 0 ≤ m) (hm2 : m ≤ 12) : Runs (loop (law04_LocateJustIf_s0 t (winL t q)) (winL t p, m, 0)) fun l =>
    ∃ k, k ≤ t.Window.toNat ∧ l = mix t p q k ∧ cnt (winV t p) (winV t q) k ≤ m ∧ (k = t.Window.toNat ∨ cnt (winV t p) (winV t q) k = m) := by
  have hw1 := h.w1; have hw2 := h.w2
  have e0 : winL t p = mix t p q 0 := by unfold winL mix; simp
  refine Runs.loop (fun s => ∃ k : Nat, s.2.2 = k ∧ k ≤ t.Window.toNat ∧ s.1 = mix t p q k ∧ s.2.1 = m - cnt (winV t p) (winV t q) k ∧ cnt (winV t p) (winV t q) k ≤ m) (fun s => t.Window.toNat - s.2.2.toNat) ⟨0, rfl, by omega, e0, by simp [cnt, rng], by simpa [cnt, rng] using hm⟩ ?_
  rintro ⟨l, n, i⟩ ⟨k, hi, hk, hl, hn, hc⟩
  simp only at hi hl hn
  subst hi hl
  unfold law04_LocateJustIf_s0
  simp only
  have hcb := cnt_bound (winV t p) (winV t q) k
  by_cases hgo : k < t.Window.toNat ∧ 0 < n
  · rw [decide_eq_true (show (k : Int) < t.Window by omega), decide_eq_true hgo.2, Bool.and_self, cond_true, idx_nat (by rw [mix_len]; exact hgo.1), idx_nat (xs := winL t q) (by rw [winL_len]; exact hgo.1), mix_getElem, if_neg (Nat.lt_irrefl k)]
    have hq : (winL t q)[k]'(by rw [winL_len]; exact hgo.1) = winV t q k := by simp [winL]
    rw [hq]
    simp only [Option.bind_some]
    have hs := cnt_succ (winV t p) (winV t q) k
    rw [bit_dd h] at hs
    by_cases he : winV t p k = winV t q k
    · simp only [he, decide_true, Bool.not_true, cond_false]
      simp only [he, decide_true, Bool.not_true, Bool.false_eq_true, if_false] at hs
      rw [w64n k (by omega)]
      exact ⟨_, rfl, ⟨k + 1, rfl, by omega, (mix_same he).symm, by simp only; omega, by omega⟩, by simp only; omega⟩
    · simp only [he, decide_false, Bool.not_false, cond_true]
      simp only [he, decide_false, Bool.not_false, if_true] at hs
      rw [Int.toNat_natCast, w64n k (by omega), w64_id (by omega)]
      exact ⟨_, rfl, ⟨k + 1, rfl, by omega, mix_set.symm, by simp only; omega, by omega⟩, by simp only; omega⟩
  · have hf : (decide ((k : Int) < t.Window) && decide (0 < n)) = false := by
      rw [Bool.eq_false_iff]
      simp only [ne_eq, Bool.and_eq_true, decide_eq_true_eq]
      omega
    rw [hf]
    exact ⟨_, rfl, k, hk, rfl, hc, by omega⟩
theorem LocateJustIf_true (t : LocateTrack) (p : guidewaylaw04_Spoilt) : law04_LocateJustIf_spec t p = some true := by
  unfold law04_LocateJustIf_spec law04_Short_spec
  rw [awake_ok]
  simp only [Option.bind_some, Bool.not_true, cond_false]
  by_cases hs : (decide ((t.Vanes.length : Int) ≤ 16) || (decide (40 < (t.Vanes.length : Int)) && decide ((t.Vanes.length : Int) ≤ 42))) = true
  · have ht : t.Vanes.length < 1073741824 := by
      simp only [Bool.or_eq_true, Bool.and_eq_true, decide_eq_true_eq] at hs; omega
    rw [hs]
    simp only [Bool.not_true, Bool.not_false, cond_true, Bool.false_or]
    rw [Copy_ok t ht, TrackErr_ok t ht]
    simp only [Option.bind_some]
    by_cases h : (chk t).2 = 0
    · have hR := chk_rt h
      have hw1 := hR.w1; have hw2 := hR.w2; have he1 := hR.e1; have he2 := hR.e2
      have hn := nW_le hR
      simp only [h, decide_true, Bool.not_true, cond_false]
      obtain ⟨f, d, pp, qq, hd, hd1, hd2, hcnt, hB⟩ := counted116_ok ht h
      unfold locate_Always_spec locate_MostUnread_spec
      rw [hcnt]
      simp only [Option.bind_some, decide_true, Bool.not_true, cond_false, Bool.true_and]
      by_cases hsp : 0 ≤ spareV t f d
      · simp only [hsp, decide_true, Bool.not_true, cond_false, unless_ok, Option.bind_some, cond_true]
        rw [first_ok _ (by simp)]
        have hmax : spareV t f d ≤ t.Window := by
          unfold spareV
          split
          · rcases hB with ⟨rfl, _⟩ | ⟨_, a, b, _, rfl, _⟩
            · contradiction
            · have := cnt_bound (winV t a) (winV t b) t.Window.toNat
              unfold dP; omega
          · omega
        simp only [frst, if_true, Option.bind_some, decide_true, Bool.not_true, cond_false, bwithin_ok, Bool.not_false, cond_true, hsp, hmax, Bool.and_self, Bool.or_self]
        rw [ToothErr_ok hR]
        simp only [Option.bind_some]
        by_cases hto : tooE t p.Tooth = 0
        · by_cases hwr : (p.Wrong.length : Int) ≤ t.Errors
          · by_cases hun : (p.Unread.length : Int) ≤ spareV t f d
            · rw [hto, decide_eq_false (show ¬ t.Errors < (p.Wrong.length : Int) by omega), decide_eq_false (show ¬ spareV t f d < (p.Unread.length : Int) by omega)]
              simp only [decide_true, Bool.not_true, Bool.or_self, cond_false]
              obtain ⟨w, k, hk, hk2, _, hw, hq⟩ := only_window hR hto
              rw [hq, Option.bind_some, WindowAt_ok hR w (by omega), Option.bind_some, just1_eq, just2_eq]
              obtain ⟨l, hl, hS⟩ := flip_ok hR p w (by omega)
              rw [hl, Option.bind_some]
              obtain ⟨l2, hl2, hS2⟩ := hide_ok hR p w (by omega) hS
              rw [hl2, Option.bind_some, Told_ok t l2 ht (by have := hS2.len; omega), hS2.err h, if_pos rfl]
              have hone : nearL t l2 = [(w : Int)] := by
                refine near_one hw fun i hi => ⟨fun hi2 => ?_, fun e => ?_⟩
                · rcases Nat.lt_trichotomy i w with hlt | rfl | hgt
                  · exfalso
                    have hfar := hS2.far i
                    rcases hB with ⟨_, _, _, _, hno⟩ | ⟨rfl, a, b, _, hdd, _, _, hmin⟩
                    · exact hno i w (by unfold PS; omega)
                    · have := hmin i w (by unfold PS; omega)
                      unfold spareV at hun
                      simp only [if_true] at hun
                      unfold dP at this hdd
                      omega
                  · rfl
                  · exfalso
                    have hfar := hS2.far i
                    rw [cnt_comm] at hfar
                    rcases hB with ⟨_, _, _, _, hno⟩ | ⟨rfl, a, b, _, hdd, _, _, hmin⟩
                    · exact hno w i (by unfold PS; omega)
                    · have := hmin w i (by unfold PS; omega)
                      unfold spareV at hun
                      simp only [if_true] at hun
                      unfold dP at this hdd
                      omega
                · subst e
                  have := hS2.near
                  omega
              rw [hone]
              simp [only1]
            · simp only [hto, decide_true, Bool.not_true, Bool.false_or]
              rw [decide_eq_true (show spareV t f d < (p.Unread.length : Int) by omega), Bool.or_true]; rfl
          · rw [decide_eq_true (show t.Errors < (p.Wrong.length : Int) by omega), Bool.or_true, Bool.true_or]; rfl
        · simp [hto]
      · simp only [hsp, decide_false, Bool.not_false, cond_true]
        rcases hB with ⟨rfl, _⟩ | ⟨rfl, a, b, hab, hdd, rfl, rfl, _⟩
        · exact absurd (show 0 ≤ spareV t false d by unfold spareV; simp; omega) hsp
        · have hab' : a < b ∧ b < nW t := by unfold PS at hab; omega
          unfold locate_DistanceOf_spec
          rw [open_ok t ht]
          simp only [Option.bind_some, h, decide_true, Bool.not_true, cond_false, unless_ok]
          rw [show locate_track_distance_spec ⟨⟨t.Vanes, t.Window, t.Tooth, t.PerVane, t.First, t.Modulus, t.Slack, t.Errors, t.Round⟩⟩ = _ from hd]
          simp only [Option.bind_some, cond_true, decide_true, Bool.not_true, Bool.not_false]
          rw [WindowErr_ok hR, WindowErr_ok hR]
          have ea : winE t a = 0 := by unfold winE; rw [if_pos (by omega)]
          have eb : winE t b = 0 := by unfold winE; rw [if_pos (by omega)]
          rw [ea, eb, decide_eq_false (show ¬ (a : Int) = (b : Int) by omega)]
          simp only [Option.bind_some, decide_true, Bool.not_true, Bool.or_self, Bool.not_false, cond_true, cond_false]
          rw [WindowAt_ok hR a (by omega), WindowAt_ok hR b (by omega)]
          simp only [Option.bind_some]
          rw [rdP_ok hR, ← hdd, Option.bind_some, w64_id (x := d + 1) (by omega), Int.tdiv_eq_ediv_of_nonneg (by omega), w64_id (by omega)]
          obtain ⟨l, hl, k, hk, rfl, hc1, hc2⟩ := just0_ok hR a b (m := (d + 1) / 2) (by omega) (by omega)
          rw [hl, Option.bind_some]
          have hlen : (mix t a b k).length = t.Window.toNat := mix_len t a b k
          have hop : opE t (mix t a b k) = 0 := by
            unfold opE seenE
            rw [if_neg (by simpa using h), if_neg (by rw [hlen]; omega), if_neg]
            rw [List.any_eq_true]
            rintro ⟨v, hv, hnv⟩
            unfold mix at hv
            obtain ⟨j, _, rfl⟩ := List.mem_map.1 hv
            have : isS (if j < k then winV t b j else winV t a j) = true := by
              split
              · rcases winV_bit hR b j with h | h <;> rw [h] <;> rfl
              · rcases winV_bit hR a j with h | h <;> rw [h] <;> rfl
            rw [this] at hnv; cases hnv
          rw [Near_ok t _ ht (by omega), hop, if_pos rfl]
          unfold spareV at hsp
          simp only [if_true] at hsp
          have hd' : d = cnt (winV t a) (winV t b) t.Window.toNat := hdd
          have na : (a : Int) ∈ nearL t (mix t a b k) := near_mem.2 ⟨a, by omega, rfl, by rw [mix_p a b k hk]; omega⟩
          have nb : (b : Int) ∈ nearL t (mix t a b k) := near_mem.2 ⟨b, by omega, rfl, by
            unfold dW
            rw [mix_q a b k _ (Nat.le_refl _), ← hd']
            rcases hc2 with rfl | hc2
            · rw [if_pos (Nat.le_refl _), ← hd']; omega
            · by_cases hkk : t.Window.toNat ≤ k
              · rw [if_pos hkk, ← hd']; omega
              · rw [if_neg hkk, hc2]; omega⟩
          simp only [Option.bind_some, decide_true, cond_true, Bool.true_and]
          have hnl : (nearL t (mix t a b k)).length < 1073741824 := by
            have key : ∀ n, (rng (fun i (x : List Int) => if dW t i (mix t a b k) ≤ t.Errors then x ++ [(i : Int)] else x) [] n).length ≤ n := by
              intro n
              induction n with
              | zero => simp [rng]
              | succ n ih =>
                simp only [rng]
                split
                · simp; omega
                · omega
            have := key (nW t)
            unfold nearL
            omega
          have ha : ((nearL t (mix t a b k)).any fun v => decide (v = (a : Int))) = true := List.any_eq_true.2 ⟨_, na, by simp⟩
          have hb : ((nearL t (mix t a b k)).any fun v => decide (v = (b : Int))) = true := List.any_eq_true.2 ⟨_, nb, by simp⟩
          rw [Has_ok _ _ hnl, Has_ok _ _ hnl, ha, hb]
          rfl
    · simp [h]
  · have : (decide ((t.Vanes.length : Int) ≤ 16) || (decide (40 < (t.Vanes.length : Int)) && decide ((t.Vanes.length : Int) ≤ 42))) = false := by
      cases h : (decide ((t.Vanes.length : Int) ≤ 16) || (decide (40 < (t.Vanes.length : Int)) && decide ((t.Vanes.length : Int) ≤ 42)))
      · rfl
      · exact absurd h hs
    rw [this]; rfl
end Go.Gw
