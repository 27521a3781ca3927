/- Levitate in plain words: errors of plants, states, boxes and samples by the specification. -/
import Derived.Test.YtglaeocolbnpdaaGreatGwLev9
set_option maxRecDepth 8192
set_option linter.unusedSimpArgs false
set_option linter.unusedVariables false
namespace Go.Gw
open Go

theorem rPlantErr_ok (p : LevitatePlant) (h : Sh p) : ref02_PlantErr_spec p = some (ckP p).2 := by
  unfold ref02_PlantErr_spec; rw [rCheckPlant_ok p h]; rfl
theorem rStateErr_ok (p : LevitatePlant) (x : List Int) (hx : x.length < 1073741824) : ref02_StateErr_spec p x = some (stE p x) := by
  unfold ref02_StateErr_spec
  rw [loop_fs x (fun _ n => if smallB 100000 n then none else some 2)]
  · have : ∀ (l : List Int) t, fs (fun _ n => if smallB 100000 n then none else some (2 : Int)) t l = if l.all (smallB 100000) then none else some 2 := by
      intro l
      induction l with
      | nil => intro t; rfl
      | cons y ys ih =>
        intro t
        cases hy : smallB 100000 y with
        | true => simp [fs, hy, ih]
        | false => simp [fs, hy]
    simp only [this, len_dec, Option.bind_some]
    unfold stE
    by_cases h : x.length = p.Noise.length <;> cases h2 : x.all (smallB 100000) <;> simp [h, oi, jn0]
  · intro k hk
    unfold ref02_StateErr_s0
    rw [lt_nat hk, idx_nat hk, w64n k (by omega)]
    simp only [cond_true, Option.bind_some, bwithin_ok]
    show (bif !smallB 100000 x[k] then _ else _) = _
    cases smallB 100000 x[k] <;> rfl
  · unfold ref02_StateErr_s0
    rw [lt_nat_no]; rfl
theorem rBoxErr_ok (p : LevitatePlant) (x : List Int) (hx : x.length < 1073741824) : ref02_BoxErr_spec p x = some (bxE p x) := by
  unfold ref02_BoxErr_spec
  rw [rStateErr_ok p x hx, loop_fs x (fun _ n => if neg0 n then some 2 else none)]
  · have : ∀ (l : List Int) t, fs (fun _ n => if neg0 n then some (2 : Int) else none) t l = if l.any neg0 then some 2 else none := by
      intro l
      induction l with
      | nil => intro t; rfl
      | cons y ys ih =>
        intro t
        cases hy : neg0 y with
        | true => simp [fs, hy]
        | false => simp [fs, hy, ih]
    simp only [this, Option.bind_some]
    unfold bxE
    by_cases h : stE p x = 0 <;> cases h2 : x.any neg0 <;> simp [h, oi, jn0]
  · intro k hk
    unfold ref02_BoxErr_s0
    rw [lt_nat hk, idx_nat hk, w64n k (by omega)]
    simp only [cond_true, Option.bind_some]
    show (bif neg0 x[k] then _ else _) = _
    cases neg0 x[k] <;> rfl
  · unfold ref02_BoxErr_s0
    rw [lt_nat_no]; rfl
theorem rSampleErr_ok {p : LevitatePlant} (h : Rp p) {s : LevitateSample} (hs : s.Noise.length < 1073741824) : ref02_SampleErr_spec p s = some (smE p s) := by
  unfold ref02_SampleErr_spec
  have hm1 := h.m1
  have hm4 := h.m4
  rw [w64_id (by omega)]
  simp only [bwithin_ok, Option.bind_some, len_dec]
  unfold smE
  by_cases h1 : 0 ≤ s.Map ∧ s.Map < p.Maps.length
  · have e1 : (decide (0 ≤ s.Map) && decide (s.Map ≤ (p.Maps.length : Int) - 1)) = true := by simp; omega
    rw [if_pos h1, e1]
    by_cases h2 : s.Noise.length = p.Noise.length
    · rw [if_pos h2, decide_eq_true h2]
      simp only [Bool.not_true, cond_false]
      rw [loop_fs s.Noise (fun k x => if smallB (gi p.Noise k) x then none else some 2), Option.bind_some, smE_loop h2]
      · intro k hk
        unfold ref02_SampleErr_s0
        rw [lt_nat hk, idx_nat hk, w64n k (by omega)]
        have hb := h.noise_b (i := k) (by omega)
        rw [cond_true, Option.bind_some, idx_gi (by omega), Option.bind_some, Option.bind_some, show w64 (0 - gi p.Noise k) = -gi p.Noise k by rw [w64_id (by omega)]; omega, bwithin_ok, Option.bind_some]
        show (bif !smallB (gi p.Noise k) s.Noise[k] then _ else _) = _
        cases smallB (gi p.Noise k) s.Noise[k] <;> rfl
      · unfold ref02_SampleErr_s0
        rw [lt_nat_no]; rfl
    · rw [if_neg h2, decide_eq_false h2]; rfl
  · have e1 : (decide (0 ≤ s.Map) && decide (s.Map ≤ (p.Maps.length : Int) - 1)) = false := by simp; omega
    rw [if_neg h1, e1]; rfl
theorem rSamplesErr_ok {p : LevitatePlant} (h : Rp p) {l : List LevitateSample} (hl : l.length < 1073741824) (hs : ∀ s ∈ l, s.Noise.length < 1073741824) : ref02_SamplesErr_spec p l = some (if 60 < l.length then 8 else smsE p l) := by
  unfold ref02_SamplesErr_spec
  by_cases h1 : 60 < l.length
  · rw [decide_eq_true (by omega), if_pos h1]; rfl
  · rw [decide_eq_false (by omega), if_neg h1, cond_false, loop_fs l (fun _ s => if smE p s = 0 then none else some (smE p s)), Option.bind_some]
    · unfold smsE smsF
      cases fs (fun _ s => if smE p s = 0 then none else some (smE p s)) 0 l <;> rfl
    · intro k hk
      unfold ref02_SamplesErr_s0
      rw [lt_nat hk, idx_nat hk, w64n k (by omega), cond_true, Option.bind_some, rSampleErr_ok h (hs _ (List.getElem_mem hk)), Option.bind_some]
      by_cases h2 : smE p l[k] = 0 <;> simp [h2, fsS]
    · unfold ref02_SamplesErr_s0
      rw [lt_nat_no]; rfl
end Go.Gw
