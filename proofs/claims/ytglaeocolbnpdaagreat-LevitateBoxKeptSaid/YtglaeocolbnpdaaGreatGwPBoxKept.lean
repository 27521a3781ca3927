/- LevitateBoxKept answers true. Condition: none. -/
import Derived.Test.YtglaeocolbnpdaaGreatGwLev16
import Derived.Test.YtglaeocolbnpdaaGreatGwLev17
import Derived.Test.YtglaeocolbnpdaaGreatGwLawLevitateBoxKept
set_option maxRecDepth 8192
set_option linter.unusedSimpArgs false
set_option linter.unusedVariables false
namespace Go.Gw
open Go

theorem dot_reach {p : LevitatePlant} {m i : Nat} {x box : List Int} (hx : ∀ k, k < p.Noise.length → -gi box k ≤ gi x k ∧ gi x k ≤ gi box k) : -reach p m i box ≤ dotP p m i x ∧ dotP p m i x ≤ reach p m i box := by
  have ht : ∀ k, k < p.Noise.length → -(((ge p m i k).natAbs : Int) * gi box k) ≤ ge p m i k * gi x k ∧ ge p m i k * gi x k ≤ ((ge p m i k).natAbs : Int) * gi box k := fun k hk => by
    have h1 := hx k hk
    exact abs_mul (A := ((ge p m i k).natAbs : Int)) (by omega) h1
  have gen : ∀ n, n ≤ p.Noise.length → -sumN (fun k => ((ge p m i k).natAbs : Int) * gi box k) n ≤ sumN (fun k => ge p m i k * gi x k) n ∧ sumN (fun k => ge p m i k * gi x k) n ≤ sumN (fun k => ((ge p m i k).natAbs : Int) * gi box k) n := by
    intro n
    induction n with
    | zero => intro _; simp [sumN]
    | succ n ih =>
      intro hn
      have h1 := ih (by omega)
      have h2 := ht n (by omega)
      simp only [sumN]
      omega
  exact gen _ (Nat.le_refl _)
theorem step_in {p : LevitatePlant} (h : Rp p) {box x : List Int} (hk : Kept p box) (hx : ∀ k, k < p.Noise.length → -gi box k ≤ gi x k ∧ gi x k ≤ gi box k) {s : LevitateSample} (hs : Sm p s) : ∀ k, k < p.Noise.length → -gi box k ≤ gi (stepI p x s) k ∧ gi (stepI p x s) k ≤ gi box k := by
  intro i hi
  have hm : s.Map.toNat < p.Maps.length := by have := hs.m0; have := hs.m1; omega
  have h1 := dot_reach (p := p) (m := s.Map.toNat) (i := i) hx
  have h2 := hk _ hm i hi
  have h3 := hs.nz i hi
  have hd := h.den
  unfold stepI
  rw [gi_tab hi]
  unfold needI at h2
  have h4 : dotP p s.Map.toNat i x / p.Den ≤ reach p s.Map.toNat i box / p.Den := Int.ediv_le_ediv (by omega) h1.2
  have h5 : -reach p s.Map.toNat i box / p.Den ≤ dotP p s.Map.toNat i x / p.Den := Int.ediv_le_ediv (by omega) h1.1
  have h6 := neg_ceil (n := -reach p s.Map.toNat i box) hd.1
  rw [Int.neg_neg] at h6
  have h7 : reach p s.Map.toNat i box / p.Den ≤ (reach p s.Map.toNat i box + p.Den - 1) / p.Den := Int.ediv_le_ediv (by omega) (by omega)
  omega
theorem run_in {p : LevitatePlant} (h : Rp p) {box : List Int} (hb : Bx p box) (hk : Kept p box) : ∀ {l : List LevitateSample} {x : List Int}, (∀ s ∈ l, Sm p s) → (∀ k, k < p.Noise.length → -gi box k ≤ gi x k ∧ gi x k ≤ gi box k) →
    ∃ ys, rnV p x l = some ys ∧ ∀ y ∈ ys, y.length = p.Noise.length ∧ ∀ k, k < p.Noise.length → -gi box k ≤ gi y k ∧ gi y k ≤ gi box k
  | [], x, _, _ => ⟨[], rfl, fun _ h => by cases h⟩
  | s :: l, x, hs, hx => by
    have h1 := step_in h hk hx (hs s (by simp))
    have h2 : (stepI p x s).all (smallB 100000) = true := (all_small (stepI_len p x s)).2 fun k hk' => by
      have := h1 k hk'; have := hb.rng k hk'; omega
    obtain ⟨ys, hy, hi⟩ := run_in h hb hk (l := l) (fun s hs' => hs s (by simp [hs'])) h1
    refine ⟨stepI p x s :: ys, by rw [rnV, if_pos h2, hy]; rfl, fun y hy' => ?_⟩
    rcases List.mem_cons.1 hy' with rfl | hy'
    · exact ⟨stepI_len _ _ _, h1⟩
    · exact hi y hy'
theorem esc_out {p : LevitatePlant} (h : Rp p) {box : List Int} (hb : Bx p box) {m i : Nat} (hm : m < p.Maps.length) (hi : i < p.Noise.length) (hlt : gi box i < needI p m i box) : gi (stepI p (escS p box m i) ⟨(m : Int), escZ p i⟩) i < -gi box i := by
  unfold stepI
  rw [gi_tab hi]
  have hd := h.den
  have e1 : dotP p m i (escS p box m i) = -reach p m i box := by
    unfold dotP reach
    have gen : ∀ n, n ≤ p.Noise.length → sumN (fun k => ge p m i k * gi (escS p box m i) k) n = -sumN (fun k => ((ge p m i k).natAbs : Int) * gi box k) n := by
      intro n
      induction n with
      | zero => intro _; rfl
      | succ n ih =>
        intro hn
        simp only [sumN]
        rw [ih (by omega)]
        have : ge p m i n * gi (escS p box m i) n = -(((ge p m i n).natAbs : Int) * gi box n) := by
          unfold escS
          rw [gi_tab (by omega)]
          unfold escN
          split
          · rename_i h1
            have : ((ge p m i n).natAbs : Int) = -ge p m i n := by omega
            rw [this]; grind
          · split
            · rename_i h1 h2
              have : ((ge p m i n).natAbs : Int) = ge p m i n := by omega
              rw [this]; grind
            · have : ge p m i n = 0 := by omega
              rw [this]; simp
        omega
    exact gen _ (Nat.le_refl _)
  have e2 : gi (escZ p i) i = -gi p.Noise i := by
    unfold escZ; rw [gi_set (by simpa using hi), if_pos rfl]
  dsimp only
  rw [Int.toNat_natCast, e1, e2]
  unfold needI at hlt
  have h6 := neg_ceil (n := -reach p m i box) hd.1
  rw [Int.neg_neg] at h6
  omega
theorem esc_right {p : LevitatePlant} (h : Rp p) {box : List Int} (hb : Bx p box) {m i : Nat} (hm : m < p.Maps.length) (hi : i < p.Noise.length) : Stt p (escS p box m i) ∧ Sm p ⟨(m : Int), escZ p i⟩ ∧ ∀ k, k < p.Noise.length → -gi box k ≤ gi (escS p box m i) k ∧ gi (escS p box m i) k ≤ gi box k := by
  have hg : ∀ k, k < p.Noise.length → -gi box k ≤ gi (escS p box m i) k ∧ gi (escS p box m i) k ≤ gi box k := fun k hk => by
    unfold escS
    rw [gi_tab hk]
    have := hb.rng k hk
    unfold escN
    split
    · omega
    · split <;> omega
  refine ⟨⟨escS_len _ _ _ _, fun k hk => by have := hg k hk; have := hb.rng k hk; omega⟩, ⟨by show (0 : Int) ≤ (m : Int); omega, by show (m : Int) < _; omega, escZ_len _ _, fun k hk => ?_⟩, hg⟩
  show -gi p.Noise k ≤ gi (escZ p i) k ∧ gi (escZ p i) k ≤ gi p.Noise k
  have hn := h.noise_b hk
  unfold escZ
  rw [gi_set (by simpa using hi)]
  split
  · rename_i e; subst e; omega
  · rw [gi_rep]; omega
theorem LevitateBoxKept_true (p : LevitatePlant) (box : Arr2_ListInt) (l : List LevitateSample) : law02_LevitateBoxKept_spec p box l = some true := by
  refine Runs.eq ?_
  unfold law02_LevitateBoxKept_spec
  refine Runs.call awake_ok ?_
  refine Runs.bif_f rfl ?_
  refine Runs.callR (Few_run p) fun b hb => ?_
  generalize hc1 : ((((!b) || (decide (5 < (box.e0.length : Int)))) || (decide (5 < (box.e1.length : Int)))) || (decide (20 < (l.length : Int)))) = c1
  cases c1 with
  | true =>
    refine Runs.call rfl ?_
    refine Runs.call rfl ?_
    refine Runs.call rfl ?_
    exact Runs.some rfl
  | false =>
    simp only [Bool.or_eq_false_iff, Bool.not_eq_false', decide_eq_false_iff_not] at hc1
    obtain ⟨⟨⟨hb1, hx0⟩, hx1⟩, hl⟩ := hc1
    have hsh := sh_few (hb hb1)
    simp only [Bool.not_false, cond_true, Bool.false_or]
    refine Runs.callR (brief_run l) fun br hbr => ?_
    cases br with
    | false => exact Runs.call rfl (Runs.call rfl (Runs.some rfl))
    | true =>
      have hnl := (hbr rfl).2
      simp only [Bool.not_true, Bool.not_false, cond_true, Bool.false_or]
      refine Runs.call (rPlantErr_ok p hsh) ?_
      by_cases h0 : (ckP p).2 = 0
      case neg => rw [decide_eq_false h0]; exact Runs.call rfl (Runs.some rfl)
      have hp := ckP_right.1 h0
      have hn := hp.n3
      rw [decide_eq_true h0]
      simp only [Bool.not_true, Bool.not_false, cond_true, Bool.false_or]
      refine Runs.call (rBoxErr_ok p box.e0 (by omega)) ?_
      by_cases h1 : bxE p box.e0 = 0
      case neg => rw [decide_eq_false h1]; exact Runs.some rfl
      have hbx := bxE_right.1 h1
      rw [decide_eq_true h1]
      refine Runs.bif_f rfl ?_
      refine Runs.call (CopyPlant_ok p hsh) ?_
      refine Runs.call (CopyInts_ok _ (by omega)) ?_
      refine Runs.call (CheckBox_ok hsh (by omega)) ?_
      refine Runs.call (CopyPlant_ok p hsh) ?_
      refine Runs.call (CopyInts_ok _ (by omega)) ?_
      refine Runs.call (lEscape_ok hsh (by omega)) ?_
      unfold cbV
      rw [if_pos (opB_zero hp hbx), if_pos (opB_zero hp hbx)]
      have hbr : ∀ k, k < box.e0.length → 0 ≤ gi box.e0 k ∧ gi box.e0 k ≤ 4000000000000000000 := fun k hk => by have := hbx.ge k hk; have := hbx.le k hk; omega
      cases hbk : brk p box.e0 with
      | some mi =>
        obtain ⟨m, i⟩ := mi
        obtain ⟨hm, hi, hlt⟩ := brk_some hbk
        have hi' : i < p.Noise.length := by rw [← hbx.len]; exact hi
        obtain ⟨r1, r2, r3⟩ := esc_right hp hbx hm hi'
        have hl1 := r1.len
        have hbl := hbx.len
        refine Runs.bif_t rfl ?_
        refine Runs.call (b := 0) ?_ ?_
        · change ref02_StateErr_spec p (escS p box.e0 m i) = _
          rw [rStateErr_ok _ _ (by omega), stE_right.2 r1]
        refine Runs.call (b := 0) ?_ ?_
        · change ref02_SampleErr_spec p ⟨(m : Int), escZ p i⟩ = _
          rw [rSampleErr_ok hp (by show (escZ p i).length < _; rw [escZ_len]; omega), smE_right.2 r2]
        refine Runs.call (b := true) ?_ ?_
        · change law02_lies_spec (escS p box.e0 m i) box.e0 = _
          rw [lies_ok (by omega) (by omega) hbr, lies_iff.2 fun k hk => r3 k (by omega)]
        refine Runs.bif_f rfl ?_
        refine Runs.call (rStep_ok hp r1 r2) ?_
        have hsl := stepI_len p (escS p box.e0 m i) ⟨(m : Int), escZ p i⟩
        refine Runs.call (b := false) ?_ (Runs.some rfl)
        change law02_lies_spec (stepI p (escS p box.e0 m i) ⟨(m : Int), escZ p i⟩) box.e0 = _
        rw [lies_ok (by omega) (by omega) hbr]
        cases hly : liesB (stepI p (escS p box.e0 m i) ⟨(m : Int), escZ p i⟩) box.e0 with
        | false => rfl
        | true =>
          have h2 := lies_iff.1 hly i (by omega)
          have h3 := esc_out hp hbx hm hi' hlt
          omega
      | none =>
        have hkp : Kept p box.e0 := fun m hm i hi => brk_none hbk m hm i (by rw [hbx.len]; exact hi)
        have hbl := hbx.len
        refine Runs.bif_f rfl ?_
        refine Runs.bif_f rfl ?_
        refine Runs.call (rStateErr_ok p _ (by omega)) ?_
        by_cases h2 : stE p box.e1 = 0
        case neg => rw [decide_eq_false h2]; exact Runs.call rfl (Runs.call rfl (Runs.some rfl))
        have hst := stE_right.1 h2
        have hstl := hst.len
        rw [decide_eq_true h2]
        simp only [Bool.not_true, Bool.not_false, cond_true, Bool.false_or]
        refine Runs.call (lies_ok (by omega) (by omega) hbr) ?_
        cases hly : liesB box.e1 box.e0 with
        | false => exact Runs.call rfl (Runs.some rfl)
        | true =>
          simp only [Bool.not_true, Bool.not_false, cond_true, Bool.false_or]
          refine Runs.call (rSamplesErr_ok hp (by omega) (fun s hs => by have := hnl s hs; omega)) ?_
          rw [if_neg (show ¬ 60 < l.length by omega)]
          by_cases h3 : smsE p l = 0
          case neg => rw [decide_eq_false h3]; exact Runs.some rfl
          rw [decide_eq_true h3]
          refine Runs.bif_f rfl ?_
          refine Runs.call (CopyPlant_ok p hsh) ?_
          refine Runs.call (CopyInts_ok _ (by omega)) ?_
          refine Runs.call (CopySamples_ok l (by omega) (fun s hs => by have := hnl s hs; omega)) ?_
          refine Runs.call (RunOf_ok hsh (by omega) (by omega) (fun s hs => by have := hnl s hs; omega)) ?_
          have hop : opR p box.e1 l = 0 := by unfold opR; simp [h0, h2, h3]; omega
          have hsm := smsE_right.1 h3
          obtain ⟨ys, hy, hin⟩ := run_in hp hbx hkp (l := l) (x := box.e1) hsm fun k hk => lies_iff.1 hly k (by omega)
          have hyl := (rnV_len hy).1
          unfold runR
          rw [if_pos hop, hy]
          refine Runs.bif_f (by simp [rnR, hyl]) ?_
          refine Runs.callR (R := fun o => o = .inr ()) ?_ (fun o ho => by subst ho; exact Runs.jr (Runs.some rfl))
          refine Runs.loop (fun s => ∃ k : Nat, s = (k : Int) ∧ k ≤ ys.length) (fun s => ys.length - s.toNat) ⟨0, rfl, Nat.zero_le _⟩ ?_
          rintro _ ⟨k, rfl, hk⟩
          unfold law02_LevitateBoxKept_s0
          change Runs (bif (decide ((k : Int) < (ys.length : Int))) then Option.bind (idx ys (k : Int)) _ else _) _
          by_cases hlt : k < ys.length
          · obtain ⟨q1, q2⟩ := hin _ (List.getElem_mem hlt)
            rw [lt_nat hlt, cond_true, idx_nat hlt, Option.bind_some]
            have hq : decide ((ys[k].length : Int) = (box.e0.length : Int)) = true := by rw [decide_eq_true_eq]; omega
            rw [hq]
            change Runs (Option.bind (idx ys (k : Int)) fun el504 => Option.bind (law02_lies_spec el504 box.e0) _) _
            rw [idx_nat hlt, Option.bind_some, lies_ok (by omega) (by omega) hbr, Option.bind_some, lies_iff.2 fun j hj => q2 j (by omega), w64n k (by omega)]
            exact Runs.some ⟨⟨k + 1, rfl, by omega⟩, by dsimp only; omega⟩
          · obtain rfl : k = ys.length := by omega
            rw [lt_nat_no]; exact Runs.some rfl
end Go.Gw
