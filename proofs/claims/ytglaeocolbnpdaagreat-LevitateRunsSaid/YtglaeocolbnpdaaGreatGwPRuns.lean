/- LevitateRuns answers true. Condition: none. -/
import Derived.Test.YtglaeocolbnpdaaGreatGwLev7
import Derived.Test.YtglaeocolbnpdaaGreatGwLawLevitateRuns
set_option maxRecDepth 8192
set_option linter.unusedSimpArgs false
set_option linter.unusedVariables false
namespace Go.Gw
open Go

theorem runR_nil {p : LevitatePlant} {x : List Int} {l : List LevitateSample} (h : (runR p x l).2 ≠ 0) : (runR p x l).1 = [] := by
  unfold runR at h ⊢
  by_cases h0 : opR p x l = 0
  · rw [if_pos h0] at h ⊢
    cases hr : rnV p x l with
    | some ys => rw [hr] at h; exact absurd rfl h
    | none => rfl
  · rw [if_neg h0]
theorem LevitateRuns_true (p : LevitatePlant) (x : List Int) (l : List LevitateSample) : law02_LevitateRuns_spec p x l = some true := by
  refine Runs.eq ?_
  unfold law02_LevitateRuns_spec
  refine Runs.call awake_ok ?_
  refine Runs.bif_f rfl ?_
  refine Runs.callR (Few_run p) fun b1 hb1 => ?_
  cases b1 with
  | false => simp only [Bool.not_false, Bool.true_or, Bool.or_true, Bool.not_true, cond_false, cond_true, Option.bind_some]; exact Runs.some rfl
  | true =>
  have hsh := sh_few (hb1 rfl)
  simp only [Bool.not_true, Bool.not_false, cond_true, Bool.false_or]
  by_cases hx5 : 5 < (x.length : Int)
  · rw [decide_eq_true hx5]; simp only [Bool.not_false, Bool.true_or, Bool.or_true, Bool.not_true, cond_false, cond_true, Option.bind_some]; exact Runs.some rfl
  rw [decide_eq_false hx5]
  simp only [Bool.or_self, Bool.not_false, cond_true, Bool.false_or]
  refine Runs.callR (brief_run l) fun b3 hb3 => ?_
  cases b3 with
  | false => simp only [Bool.not_false, Bool.true_or, Bool.or_true, Bool.not_true, cond_false, cond_true, Option.bind_some]; exact Runs.some rfl
  | true =>
  obtain ⟨hll, hnl⟩ := hb3 rfl
  have hnb : ∀ s ∈ l, s.Noise.length < 1073741824 := fun s hs => by have := hnl s hs; omega
  refine Runs.bif_f rfl ?_
  refine Runs.call (CopyPlant_ok p hsh) ?_
  refine Runs.call (CopyInts_ok x (by omega)) ?_
  refine Runs.call (CopySamples_ok l (by omega) (fun s hs => by have := hnl s hs; omega)) ?_
  refine Runs.call (RunOf_ok hsh (by omega) (by omega) hnb) ?_
  refine Runs.call (CopyPlant_ok p hsh) ?_
  refine Runs.call (CopyInts_ok x (by omega)) ?_
  refine Runs.call (CopySamples_ok l (by omega) (fun s hs => by have := hnl s hs; omega)) ?_
  refine Runs.call (lExc_ok hsh (by omega) (by omega) hnb) ?_
  refine Runs.call (rPlantErr_ok p hsh) ?_
  refine Runs.call (b := if (ckP p).2 = 0 then stE p x else (ckP p).2) (by
    by_cases h0 : (ckP p).2 = 0
    · rw [decide_eq_true h0, cond_true, rStateErr_ok p x (by omega), if_pos h0]; rfl
    · rw [decide_eq_false h0, cond_false, if_neg h0]) ?_
  refine Runs.call (b := opR p x l) (by
    unfold opR
    by_cases h0 : (ckP p).2 = 0
    · rw [if_pos h0, if_neg (by simpa using h0)]
      by_cases h1 : stE p x = 0
      · rw [decide_eq_true h1, cond_true, rSamplesErr_ok (ckP_right.1 h0) (by omega) hnb]; simp [h1]
      · rw [decide_eq_false h1, cond_false, if_pos h1]
    · rw [if_neg h0, if_pos h0, decide_eq_false h0, cond_false]) ?_
  refine Runs.call (b := ((runR p x l).2, (runR p x l).1)) (by
    by_cases h0 : opR p x l = 0
    · have h1 := h0
      unfold opR at h1
      have a1 : (ckP p).2 = 0 := by
        rcases Classical.em ((ckP p).2 = 0) with h | h
        · exact h
        · rw [if_pos h] at h1; exact h1
      rw [if_neg (by simpa using a1)] at h1
      have a2 : stE p x = 0 := by
        rcases Classical.em (stE p x = 0) with h | h
        · exact h
        · rw [if_pos h] at h1; exact h1
      rw [if_neg (by simpa using a2)] at h1
      have a3 : ¬ 60 < l.length := fun h => by rw [if_pos h] at h1; cases h1
      rw [if_neg a3] at h1
      rw [decide_eq_true h0, cond_true, rRun_ok (ckP_right.1 a1) (by omega) (smsE_right.1 h1) (stE_right.1 a2), Option.bind_some]
      unfold runR
      rw [if_pos h0]
      cases rnV p x l with
      | some ys => simp [rnR, h0]
      | none => rfl
    · rw [decide_eq_false h0, cond_false]
      unfold runR
      rw [if_neg h0]) ?_
  have he : (excR p x l).2 = (runR p x l).2 := by unfold excR; split <;> simp_all
  simp only [he, decide_true, Bool.not_true, Bool.or_self, Bool.not_false, cond_true, Bool.false_or]
  by_cases h0 : (runR p x l).2 = 0
  · obtain ⟨hp, hst, h60, hsm, ys, hy, hr⟩ := runR_zero h0
    have hyl := rnV_len hy
    have hxl := hst.len
    have hn3 := hp.n3
    have hex : (excR p x l).1 = tab x.length fun i => mxS 0 (ys ++ [x]) i := by unfold excR; rw [if_pos h0, hr]
    rw [hr]
    refine Runs.call (Lists_ok ys ys (by omega) (fun r hr => by have := (hyl.2 r hr).len; omega)) ?_
    rw [decide_eq_true rfl]
    refine Runs.bif_f rfl ?_
    refine Runs.bif_f rfl ?_
    rw [hex, tab_len, decide_eq_true rfl]
    refine Runs.bif_f rfl ?_
    refine Runs.callR (R := fun o => o = .inr ()) ?_ (fun o ho => by subst ho; exact Runs.jr (Runs.some rfl))
    refine Runs.loop (fun s => ∃ k : Nat, s = (k : Int) ∧ k ≤ x.length) (fun s => x.length - s.toNat) ⟨0, rfl, Nat.zero_le _⟩ ?_
    rintro _ ⟨k, rfl, hk⟩
    unfold law02_LevitateRuns_s1
    dsimp only
    by_cases hlt : k < x.length
    · have hb := hst.bd k (by omega)
      rw [lt_nat hlt, cond_true, idx_gi hlt, Option.bind_some, bsize_ok (by omega), Option.bind_some]
      have hin : loop (law02_LevitateRuns_s0 ys (k : Int)) (((gi x k).natAbs : Int), 0) = some (mxS ((gi x k).natAbs : Int) ys k) := by
        have h := loop_fld (step := law02_LevitateRuns_s0 ys (k : Int)) ys (fun _ m y => if m < ((gi y k).natAbs : Int) then ((gi y k).natAbs : Int) else m) (fun a j => (a, (j : Int))) (fun a => a) (fun _ _ => True) ((gi x k).natAbs : Int) trivial (fun j hj a _ => by
          refine ⟨?_, trivial⟩
          have hy2 := hyl.2 _ (List.getElem_mem hj)
          have hb2 := hy2.bd k (by omega)
          unfold law02_LevitateRuns_s0
          dsimp only
          rw [lt_nat hj, cond_true, idx_nat hj, Option.bind_some, idx_gi (by rw [hy2.len]; omega), Option.bind_some, bsize_ok (by omega), Option.bind_some, w64n j (by omega)]) (fun a _ => by
          unfold law02_LevitateRuns_s0
          dsimp only
          rw [lt_nat_no]; rfl)
        have h1 := h.1
        have gen : ∀ (zs : List (List Int)) (j : Nat) (a : Int), fld (fun _ m y => if m < ((gi y k).natAbs : Int) then ((gi y k).natAbs : Int) else m) j a zs = mxS a zs k := by
          intro zs
          induction zs with
          | nil => intro _ _; rfl
          | cons z zs ih => intro j a; exact ih _ _
        rw [gen] at h1
        exact h1
      rw [hin, Option.bind_some, idx_gi (by rw [hex, tab_len]; exact hlt), Option.bind_some, hex, gi_tab hlt, mxS_turn, decide_eq_true rfl, w64n k (by omega)]
      exact Runs.some ⟨⟨k + 1, rfl, by omega⟩, by dsimp only; omega⟩
    · obtain rfl : k = x.length := by omega
      rw [lt_nat_no]; exact Runs.some rfl
  · have hnil := runR_nil h0
    have hex : (excR p x l).1 = [] := by unfold excR; rw [if_neg h0]
    rw [hnil, hex]
    refine Runs.call (Lists_ok [] [] (by decide) (fun r hr => by cases hr)) ?_
    rw [decide_eq_true rfl]
    refine Runs.bif_f rfl ?_
    rw [decide_eq_false h0]
    exact Runs.bif_t rfl (Runs.some rfl)
end Go.Gw
