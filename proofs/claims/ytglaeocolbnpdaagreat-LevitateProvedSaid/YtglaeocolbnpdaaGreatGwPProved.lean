/- LevitateProved answers true. Condition: none. -/
import Derived.Test.YtglaeocolbnpdaaGreatGwLev7
import Derived.Test.YtglaeocolbnpdaaGreatGwLawLevitateProved
set_option maxRecDepth 8192
set_option linter.unusedSimpArgs false
set_option linter.unusedVariables false
namespace Go.Gw
open Go

noncomputable def bndL (f : List (List Int)) (L : Int) : List Int := (List.range f.length).map fun i => bndV (L * detL f (butL f.length i)) (detL f (List.range f.length))
theorem bndL_len (f : List (List Int)) (L : Int) : (bndL f L).length = f.length := by simp [bndL]
theorem gi_bndL {f : List (List Int)} {L : Int} {i : Nat} (h : i < f.length) : gi (bndL f L) i = bndV (L * detL f (butL f.length i)) (detL f (List.range f.length)) := by
  rw [← gi_eq (by rw [bndL_len]; exact h)]; simp [bndL]
theorem Prf.lies {p : LevitatePlant} {f : List (List Int)} {r : Arr2_Int} {L : Int} (h : Prf p f r L) {x : List Int} (hx : Stt p x) (hv : valI p.Noise.length f x ≤ L) : liesB x (bndL f L) = true := by
  rw [lies_iff]
  intro k hk
  have hk' : k < p.Noise.length := by rw [← hx.len]; exact hk
  rw [gi_bndL (by rw [h.len]; exact hk')]
  have := hx.bd k hk'
  exact (h.bnd hk').2.2 (gi x) hv (by omega)
theorem LevitateProved_true (p : LevitatePlant) (pr : LevitateProof) (x : guidewaylaw02_LevitateStart) : law02_LevitateProved_spec p pr x = some true := by
  refine Runs.eq ?_
  unfold law02_LevitateProved_spec
  refine Runs.call awake_ok ?_
  refine Runs.bif_f rfl ?_
  refine Runs.callR (Few_run p) fun b1 hb1 => ?_
  cases b1 with
  | false => simp only [Bool.not_false, Bool.true_or, Bool.or_true, Bool.not_true, cond_false, cond_true, Option.bind_some]; exact Runs.some rfl
  | true =>
  have hsh := sh_few (hb1 rfl)
  simp only [Bool.not_true, Bool.not_false, cond_true, Bool.false_or]
  refine Runs.callR (shortForm_run pr.Form) fun b2 hb2 => ?_
  cases b2 with
  | false => simp only [Bool.not_false, Bool.true_or, Bool.or_true, Bool.not_true, cond_false, cond_true, Option.bind_some]; exact Runs.some rfl
  | true =>
  obtain ⟨hf5, hfr⟩ := hb2 rfl
  simp only [Bool.not_true, Bool.not_false, cond_true, Bool.false_or]
  by_cases hx5 : 5 < (x.State.length : Int)
  · rw [decide_eq_true hx5]; simp only [Bool.not_false, Bool.true_or, Bool.or_true, Bool.not_true, cond_false, cond_true, Option.bind_some]; exact Runs.some rfl
  rw [decide_eq_false hx5]
  by_cases hl20 : 20 < (x.Samples.length : Int)
  · rw [decide_eq_true hl20]; simp only [Bool.not_false, Bool.true_or, Bool.or_true, Bool.not_true, cond_false, cond_true, Option.bind_some, Bool.false_or]; exact Runs.some rfl
  rw [decide_eq_false hl20]
  simp only [Bool.or_self, Bool.not_false, cond_true, Bool.false_or]
  refine Runs.callR (brief_run x.Samples) fun b3 hb3 => ?_
  cases b3 with
  | false => simp only [Bool.not_false, Bool.true_or, Bool.or_true, Bool.not_true, cond_false, cond_true, Option.bind_some]; exact Runs.some rfl
  | true =>
  have hnl := (hb3 rfl).2
  simp only [Bool.not_true, Bool.not_false, cond_true, Bool.false_or]
  refine Runs.call (rPlantErr_ok p hsh) ?_
  by_cases h0 : (ckP p).2 = 0
  case neg => rw [decide_eq_false h0]; simp only [Bool.not_false, Bool.true_or, Bool.or_true, Bool.not_true, cond_false, cond_true, Option.bind_some]; exact Runs.some rfl
  rw [decide_eq_true h0]
  have hp := ckP_right.1 h0
  simp only [Bool.not_true, Bool.not_false, cond_true, Bool.false_or]
  refine Runs.call (rPlantFormErr_ok p pr.Form (by omega)) ?_
  by_cases h1 : pfE p pr.Form = 0
  case neg => rw [decide_eq_false h1]; simp only [Bool.not_false, Bool.true_or, Bool.or_true, Bool.not_true, cond_false, cond_true, Option.bind_some]; exact Runs.some rfl
  rw [decide_eq_true h1]
  obtain ⟨hrf, hfn⟩ := pfE_zero.1 h1
  simp only [Bool.not_true, Bool.not_false, cond_true, Bool.false_or]
  refine Runs.call (rStateErr_ok p x.State (by omega)) ?_
  by_cases h2 : stE p x.State = 0
  case neg => rw [decide_eq_false h2]; simp only [Bool.not_false, Bool.true_or, Bool.or_true, Bool.not_true, cond_false, cond_true, Option.bind_some]; exact Runs.some rfl
  rw [decide_eq_true h2]
  have hst := stE_right.1 h2
  simp only [Bool.not_true, Bool.not_false, cond_true, Bool.false_or]
  refine Runs.call (rSamplesErr_ok hp (by omega) (fun s hs => by have := hnl s hs; omega)) ?_
  rw [if_neg (show ¬ 60 < x.Samples.length by omega)]
  by_cases h3 : smsE p x.Samples = 0
  case neg => rw [decide_eq_false h3]; exact Runs.some rfl
  rw [decide_eq_true h3]
  have hsm := smsE_right.1 h3
  refine Runs.bif_f rfl ?_
  refine Runs.call (CopyPlant_ok p hsh) ?_
  refine Runs.call (CopyLists_ok pr.Form (by omega) (fun r hr => by have := hfr r hr; omega)) ?_
  refine Runs.call (CheckProof_ok (x := ⟨pr.Form, pr.Rate, pr.Level⟩) hp hrf hfn) ?_
  change Runs (bif (!decide ((cpV p pr).2 = 0)) then _ else _) _
  by_cases h4 : (cpV p pr).2 = 0
  case neg =>
    rw [decide_eq_false h4]
    refine Runs.bif_t rfl (Runs.some ?_)
    have : (cpV p pr).1 = [] := by
      revert h4
      unfold cpV
      split
      · split
        · split
          · intro h; exact absurd rfl h
          · intro _; rfl
        · intro _; rfl
      · intro _; rfl
    change decide (((cpV p pr).1.length : Int) = 0) = true
    rw [this]; rfl
  have hprf := cpV_prf hp hrf hfn h4
  have hcp : cpV p ⟨pr.Form, pr.Rate, pr.Level⟩ = (bndL pr.Form pr.Level, 0) := hprf.cp
  rw [hcp]
  refine Runs.bif_f rfl ?_
  have hbl := bndL_len pr.Form pr.Level
  have hxl := hst.len
  have hn3 := hp.n3
  have hn1 := hp.n1
  have hlen : decide (((bndL pr.Form pr.Level).length : Int) = (x.State.length : Int)) = true := by rw [decide_eq_true_eq]; omega
  simp only [hlen, Bool.not_true, Bool.not_false, cond_true]
  refine Runs.call (bwithin_ok pr.Level 1 100000000000000) ?_
  have hlv := hprf.lev
  have hgap : (decide (1 ≤ pr.Level) && decide (pr.Level ≤ 100000000000000)) = true := by
    have hk := hprf.kpt
    have hw := hprf.wst
    -- a level of 0 is never kept: the worst disturbance is above 0
    have hw1 : 0 < worstI p pr.Form := hprf.wst1
    have hr := hprf.rr
    unfold kptB at hk
    simp only [Bool.and_eq_true, decide_eq_true_eq] at hk ⊢
    refine ⟨?_, hlv.2⟩
    rcases Int.lt_or_le 0 pr.Level with h | h
    · omega
    · exfalso
      have e : pr.Level = 0 := by omega
      rw [e, Int.mul_zero] at hk
      have := Int.mul_pos (show 0 < pr.Rate.e1 by have := hr.e1; omega) hw1
      omega
  rw [hgap]
  refine Runs.bif_f rfl ?_
  refine Runs.callR (R := fun o => o = .inr ()) ?_ (fun o ho => by
    subst ho
    refine Runs.jr ?_
    have hsq : Sq x.State.length pr.Form := by rw [hxl, ← hfn]; exact hrf.sq
    refine Runs.call (rValue_ok hsq rfl (by omega)) ?_
    have hbd : Bd p.Noise.length pr.Form 10000 := by rw [← hfn]; exact hrf.bd
    have hv := valI_b hn3 hbd (X := 100000) (by decide) hst.bd
    rw [hxl, w64_id (by omega)]
    by_cases h5 : pr.Level < valI p.Noise.length pr.Form x.State
    · rw [decide_eq_true h5]; exact Runs.bif_t rfl (Runs.some rfl)
    rw [decide_eq_false h5]
    refine Runs.bif_f rfl ?_
    refine Runs.call (CopyInts_ok x.State (by omega)) ?_
    have hbr : ∀ k, k < (bndL pr.Form pr.Level).length → 0 ≤ gi (bndL pr.Form pr.Level) k ∧ gi (bndL pr.Form pr.Level) k ≤ 4000000000000000000 := fun k hk => by
      rw [gi_bndL (by omega)]
      have := hprf.bnd (i := k) (by omega)
      omega
    -- the runs
    refine Runs.callR (R := fun o => o = .inl true ∨ ∃ y, o = .inr y ∧ Stt p y ∧ valI p.Noise.length pr.Form y ≤ pr.Level) ?_ (fun o ho => by
      rcases ho with rfl | ⟨y, rfl, hy, hvy⟩
      · exact Runs.jl rfl
      · refine Runs.jr ?_
        have hyl := hy.len
        refine Runs.call (lies_ok (by omega) (by omega) hbr) ?_
        exact Runs.some (hprf.lies hy hvy))
    refine Runs.loop (fun s => ∃ k : Nat, s.2 = (k : Int) ∧ k ≤ x.Samples.length ∧ Stt p s.1 ∧ valI p.Noise.length pr.Form s.1 ≤ pr.Level) (fun s => x.Samples.length - s.2.toNat) ⟨0, rfl, Nat.zero_le _, hst, by show valI _ _ x.State ≤ _; omega⟩ ?_
    rintro ⟨y, _⟩ ⟨k, rfl, hk, hy, hvy⟩
    dsimp only at hy hvy
    unfold law02_LevitateProved_s1
    dsimp only
    by_cases hlt : k < x.Samples.length
    · have hyl := hy.len
      have hs := hsm _ (List.getElem_mem hlt)
      have hsn := hnl _ (List.getElem_mem hlt)
      rw [lt_nat hlt, cond_true]
      refine Runs.call (lies_ok (by omega) (by omega) hbr) ?_
      rw [hprf.lies hy hvy]
      refine Runs.bif_f rfl ?_
      refine Runs.call (idx_nat hlt) ?_
      refine Runs.call (CopyPlant_ok p hsh) ?_
      refine Runs.call (CopyInts_ok _ (by omega)) ?_
      refine Runs.call (CopySample_ok _ (by omega)) ?_
      refine Runs.call (StepOf_ok hsh (by omega) (by omega)) ?_
      have hop : opR p y [x.Samples[k]] = 0 := by
        unfold opR; rw [smsE_one]
        simp [h0, stE_right.2 hy, smE_right.2 hs]
      have hval := hprf.step hs hvy
      unfold stpR
      rw [if_pos hop]
      cases hb : (stepI p y x.Samples[k]).all (smallB 100000) with
      | false =>
        simp only [Bool.false_eq_true, if_false]
        refine Runs.bif_t rfl ?_
        refine Runs.gd (fun _ => ?_) (fun h => by cases h)
        refine Runs.call (idx_nat hlt) ?_
        refine Runs.gd (fun _ => ?_) (fun h => by cases h)
        refine Runs.call (rStep_ok hp hy hs) ?_
        refine Runs.gd (fun _ => ?_) (fun h => by cases h)
        refine Runs.call (rStateErr_ok _ _ (by rw [stepI_len]; omega)) ?_
        have h6 : stE p (stepI p y x.Samples[k]) ≠ 0 := fun h => by have := stepI_stt.1 (stE_right.1 h); rw [hb] at this; cases this
        rw [decide_eq_false h6]
        exact Runs.some (.inl rfl)
      | true =>
        have hst2 := stepI_stt.2 hb
        simp only [if_true]
        refine Runs.bif_f rfl ?_
        refine Runs.call (rStateErr_ok _ _ (by rw [stepI_len]; omega)) ?_
        rw [stE_right.2 hst2]
        refine Runs.bif_f rfl ?_
        refine Runs.call (CopyLists_ok pr.Form (by omega) (fun r hr => by have := hfr r hr; omega)) ?_
        refine Runs.call (CopyInts_ok _ (by rw [stepI_len]; omega)) ?_
        refine Runs.call (lValueOf_ok pr.Form (by omega) _ (by rw [stepI_len]; omega)) ?_
        have hvo : voV pr.Form (stepI p y x.Samples[k]) = (valI p.Noise.length pr.Form (stepI p y x.Samples[k]), 0) := by
          unfold voV
          rw [if_neg (by simpa using frmE_right.2 hrf), if_neg (by simp [stepI_len, hfn]), if_pos hb, hfn]
        rw [hvo]
        have hnn := hprf.psd (gi (stepI p y x.Samples[k]))
        have q1 : decide (pr.Level < valI p.Noise.length pr.Form (stepI p y x.Samples[k])) = false := decide_eq_false (by have : valI p.Noise.length pr.Form (stepI p y x.Samples[k]) ≤ pr.Level := hval; omega)
        have q2 : decide (valI p.Noise.length pr.Form (stepI p y x.Samples[k]) < 0) = false := decide_eq_false (by have : 0 ≤ valI p.Noise.length pr.Form (stepI p y x.Samples[k]) := hnn; omega)
        dsimp only
        rw [q1, q2]
        refine Runs.bif_f rfl ?_
        refine Runs.call (CopyInts_ok _ (by rw [stepI_len]; omega)) ?_
        rw [w64n k (by omega)]
        exact Runs.some ⟨⟨k + 1, rfl, by omega, hst2, hval⟩, by dsimp only; omega⟩
    · obtain rfl : k = x.Samples.length := by omega
      rw [lt_nat_no]
      exact Runs.some (.inr ⟨y, rfl, hy, hvy⟩))
  refine Runs.loop (fun s => ∃ k : Nat, s = (k : Int) ∧ k ≤ pr.Form.length) (fun s => pr.Form.length - s.toNat) ⟨0, rfl, Nat.zero_le _⟩ ?_
  rintro _ ⟨k, rfl, hk⟩
  unfold law02_LevitateProved_s0
  dsimp only
  rw [hbl]
  by_cases hlt : k < pr.Form.length
  · have hb := hprf.bnd (i := k) (by omega)
    rw [lt_nat hlt, cond_true, idx_gi (by rw [hbl]; exact hlt), Option.bind_some, gi_bndL hlt, decide_eq_false (by omega), w64n k (by omega)]
    exact Runs.some ⟨⟨k + 1, rfl, by omega⟩, by dsimp only; omega⟩
  · obtain rfl : k = pr.Form.length := by omega
    rw [lt_nat_no]; exact Runs.some rfl
end Go.Gw
