/- Levitate in plain words: samples, steps, runs; the examples that each law begins with. Condition: lists are short. -/
import Derived.Test.YtglaeocolbnpdaaGreatGwLev8
set_option maxRecDepth 8192
set_option linter.unusedSimpArgs false
set_option linter.unusedVariables false
namespace Go.Gw
open Go

/-! ### Division downwards -/
theorem neg_ceil {n b : Int} (hb : 1 ≤ b) : -((-n + b - 1) / b) = n / b := by
  have h1 := Int.mul_ediv_add_emod n b
  have h2 := Int.emod_nonneg n (show b ≠ 0 by omega)
  have h3 := Int.emod_lt_of_pos n (show 0 < b by omega)
  have : (-n + b - 1) / b = -(n / b) := by
    rw [show -n + b - 1 = (b - 1 - n % b) + b * (-(n / b)) by rw [Int.mul_neg]; omega, Int.add_mul_ediv_left _ _ (by omega), Int.ediv_eq_zero_of_lt (by omega) (by omega)]; omega
  omega
theorem div_bd {n b : Int} (hb : 1 ≤ b) {M : Int} (h : -M ≤ n ∧ n ≤ M) : -M ≤ n / b ∧ n / b ≤ M := by
  by_cases h0 : 0 ≤ n
  · have h1 : 0 ≤ n / b := Int.ediv_nonneg h0 (by omega)
    have h2 : n / b ≤ n := Int.ediv_le_self _ h0
    omega
  · have h1 : n / b < 0 := Int.ediv_neg_of_neg_of_pos (by omega) (by omega)
    have h2 := neg_ceil (n := n) hb
    have h3 : (-n + b - 1) / b ≤ -n := by
      apply Int.ediv_le_of_le_mul (by omega)
      have : 0 ≤ (-n - 1) * (b - 1) := Int.mul_nonneg (by omega) (by omega)
      have e : (-n - 1) * (b - 1) = -n * b + n - b + 1 := by grind
      omega
    omega
theorem lfloor_ok {n b : Int} (h : -4000000000000000000 ≤ n ∧ n ≤ 4000000000000000000) (h2 : 1 ≤ b) (h3 : b ≤ 4000000000000000000) : levitate_floor_spec n b = some (n / b) := by
  unfold levitate_floor_spec
  by_cases hn : n < 0
  · rw [decide_eq_true hn, cond_true, show w64 (0 - n) = -n by rw [w64_id (by omega)]; omega]
    unfold levitate_ceil_part_spec
    rw [show decide (-n < 0) = false by simp; omega, cond_false, w64_id (x := -n + b) (by omega), w64_id (by omega), quo_ok (by omega), Int.tdiv_eq_ediv_of_nonneg (by omega)]
    have e := neg_ceil (n := n) h2
    have h4 : 0 ≤ (-n + b - 1) / b := Int.ediv_nonneg (by omega) (by omega)
    have h5 : (-n + b - 1) / b ≤ -n + b - 1 := Int.ediv_le_self _ (by omega)
    simp only [Option.bind_some]
    rw [w64_id (x := (-n + b - 1) / b) (by omega), w64_id (by omega)]
    congr 1; omega
  · rw [decide_eq_false hn, cond_false, quo_ok (by omega), Int.tdiv_eq_ediv_of_nonneg (by omega), Option.bind_some]
    have := div_bd h2 h
    rw [w64_id (by omega)]

/-! ### Samples -/
def smE (p : LevitatePlant) (s : LevitateSample) : Int :=
  if 0 ≤ s.Map ∧ s.Map < p.Maps.length then
    (if s.Noise.length = p.Noise.length then
      (match fs (fun k x => if smallB (gi p.Noise k) x then none else some (2 : Int)) 0 s.Noise with | some e => e | none => 0) else 10) else 6
structure Sm (p : LevitatePlant) (s : LevitateSample) : Prop where
  m0 : 0 ≤ s.Map
  m1 : s.Map < p.Maps.length
  len : s.Noise.length = p.Noise.length
  nz : ∀ k, k < p.Noise.length → -gi p.Noise k ≤ gi s.Noise k ∧ gi s.Noise k ≤ gi p.Noise k
theorem fs_two {α : Type} {P : Nat → α → Bool} {l : List α} {k : Nat} {e : Int} (h : fs (fun k x => if P k x then none else some (2 : Int)) k l = some e) : e = 2 := by
  obtain ⟨i, hi, h1⟩ := fs_mem h
  split at h1
  · cases h1
  · cases h1; rfl
theorem smE_right {p : LevitatePlant} {s : LevitateSample} : smE p s = 0 ↔ Sm p s := by
  unfold smE
  constructor
  · intro h
    split at h
    · rename_i h1
      split at h
      · rename_i h2
        cases h3 : fs (fun k x => if smallB (gi p.Noise k) x then none else some (2 : Int)) 0 s.Noise with
        | some e => rw [h3] at h; have := fs_two h3; simp only at h; omega
        | none =>
          refine ⟨h1.1, h1.2, h2, fun k hk => ?_⟩
          have h4 := fs_none.1 h3 k (by omega)
          rw [Nat.zero_add, gi_eq (by omega)] at h4
          split at h4
          · rename_i h5; exact (small_iff _ _).1 h5
          · cases h4
      · omega
    · omega
  · intro h
    rw [if_pos ⟨h.m0, h.m1⟩, if_pos h.len]
    have : fs (fun k x => if smallB (gi p.Noise k) x then none else some (2 : Int)) 0 s.Noise = none := fs_none.2 fun i hi => by
      have := h.nz i (by have := h.len; omega)
      rw [Nat.zero_add, gi_eq hi, if_pos ((small_iff _ _).2 this)]
    rw [this]
theorem smE_loop {p : LevitatePlant} {s : LevitateSample} (hl : s.Noise.length = p.Noise.length) : (jn0 (oi (fs (fun k x => if smallB (gi p.Noise k) x then none else some (2 : Int)) 0 s.Noise)) fun (_ : Unit) => some 0) = some (match fs (fun k x => if smallB (gi p.Noise k) x then none else some (2 : Int)) 0 s.Noise with | some e => e | none => 0) := by
  cases fs (fun k x => if smallB (gi p.Noise k) x then none else some (2 : Int)) 0 s.Noise <;> rfl
theorem lsampleErr_ok {p : LevitatePlant} (h : Rp p) {s : LevitateSample} (hs : s.Noise.length < 1073741824) : levitate_plant_sampleErr_spec ⟨p⟩ s = some (smE p s) := by
  unfold levitate_plant_sampleErr_spec
  have hm1 := h.m1
  have hm4 := h.m4
  rw [w64_id (by dsimp only; omega)]
  simp only [lwithin_ok, Option.bind_some, lunless_ok, first2, len_dec]
  unfold smE
  by_cases h1 : 0 ≤ s.Map ∧ s.Map < p.Maps.length
  · have e1 : (decide (0 ≤ s.Map) && decide (s.Map ≤ (p.Maps.length : Int) - 1)) = true := by simp; omega
    rw [if_pos h1, e1]
    by_cases h2 : s.Noise.length = p.Noise.length
    · rw [if_pos h2, decide_eq_true h2]
      simp only [cond_true, decide_true, Bool.not_true, cond_false, if_pos]
      rw [loop_fs s.Noise (fun k x => if smallB (gi p.Noise k) x then none else some 2), Option.bind_some, smE_loop h2]
      · intro k hk
        unfold levitate_plant_sampleErr_s0
        rw [lt_nat hk, idx_nat hk, w64n k (by omega)]
        dsimp only
        have hb := h.noise_b (i := k) (by omega)
        rw [cond_true, Option.bind_some, idx_gi (by omega), Option.bind_some, lsmall_ok _ _ (by omega), Option.bind_some]
        cases smallB (gi p.Noise k) s.Noise[k] <;> rfl
      · unfold levitate_plant_sampleErr_s0
        rw [lt_nat_no]; rfl
    · rw [if_neg h2, decide_eq_false h2]; rfl
  · have e1 : (decide (0 ≤ s.Map) && decide (s.Map ≤ (p.Maps.length : Int) - 1)) = false := by simp; omega
    rw [if_neg h1, e1]; rfl
def smsF (p : LevitatePlant) (l : List LevitateSample) : Option Int := fs (fun _ s => if smE p s = 0 then none else some (smE p s)) 0 l
def smsE (p : LevitatePlant) (l : List LevitateSample) : Int := match smsF p l with | some e => e | none => 0
theorem smsE_right {p : LevitatePlant} {l : List LevitateSample} : smsE p l = 0 ↔ ∀ s ∈ l, Sm p s := by
  unfold smsE
  constructor
  · intro h s hs
    cases h1 : smsF p l with
    | some e =>
      rw [h1] at h
      obtain ⟨i, hi, h2⟩ := fs_mem h1
      split at h2
      · cases h2
      · cases h2; exact absurd h (by assumption)
    | none =>
      obtain ⟨i, hi, rfl⟩ := List.mem_iff_getElem.1 hs
      have h2 := fs_none.1 h1 i hi
      split at h2
      · exact smE_right.1 (by assumption)
      · cases h2
  · intro h
    have : smsF p l = none := fs_none.2 fun i hi => by rw [if_pos (smE_right.2 (h _ (List.getElem_mem hi)))]
    rw [this]
def opR (p : LevitatePlant) (x : List Int) (l : List LevitateSample) : Int :=
  if (ckP p).2 ≠ 0 then (ckP p).2 else if stE p x ≠ 0 then stE p x else if 60 < l.length then 8 else smsE p l
theorem lopenRun_ok {p : LevitatePlant} (h : Sh p) {x : List Int} (hx : x.length < 1073741824) {l : List LevitateSample} (hl : l.length < 1073741824) (hs : ∀ s ∈ l, s.Noise.length < 1073741824) :
    levitate_openRun_spec p x l = some (⟨p⟩, opR p x l) := by
  unfold levitate_openRun_spec
  rw [lopen_ok p h, Option.bind_some]
  dsimp only
  unfold opR
  by_cases h0 : (ckP p).2 = 0
  · have hp := ckP_right.1 h0
    rw [if_neg (by simp [h0]), decide_eq_true h0]
    simp only [Bool.not_true, cond_false, lunless_ok, Option.bind_some, first2]
    change Option.bind (levitate_plant_stateErr_spec ⟨p⟩ x) _ = _
    rw [lstateErr_ok p x hx, Option.bind_some]
    by_cases h1 : stE p x = 0
    · by_cases h2 : 60 < l.length
      · have e : decide ((l.length : Int) ≤ 60) = false := decide_eq_false (by omega)
        simp [h1, h2, e]
      · have e : decide ((l.length : Int) ≤ 60) = true := decide_eq_true (by omega)
        simp only [e, h1, h2, if_true, if_false, cond_true, decide_true, Bool.not_true, cond_false, ne_eq, not_true_eq_false]
        rw [loop_fs l (fun _ s => if smE p s = 0 then none else some (⟨p⟩, smE p s)), Option.bind_some]
        · have e : fs (fun (_ : Nat) s => if smE p s = 0 then none else some ((⟨p⟩ : levitate_plant), smE p s)) 0 l = (smsF p l).map fun e => (⟨p⟩, e) := by
            unfold smsF
            rw [← map_fs]
            exact fs_congr fun i hi => by split <;> rfl
          rw [e]
          unfold smsE
          cases smsF p l <;> rfl
        · intro k hk
          unfold levitate_openRun_s0
          rw [lt_nat hk, idx_nat hk, w64n k (by omega), cond_true, Option.bind_some]
          change Option.bind (levitate_plant_sampleErr_spec ⟨p⟩ l[k]) _ = _
          rw [lsampleErr_ok hp (hs _ (List.getElem_mem hk)), Option.bind_some]
          by_cases h2 : smE p l[k] = 0
          · simp [h2, fsS]
          · simp only [h2, decide_false, Bool.not_false, cond_true, if_false, fsS]
        · unfold levitate_openRun_s0
          rw [lt_nat_no]; rfl
    · simp [h1]
  · rw [if_pos h0, decide_eq_false h0]; rfl

/-! ### Steps -/
def dotP (p : LevitatePlant) (m i : Nat) (x : List Int) : Int := sumN (fun k => ge p m i k * gi x k) p.Noise.length
def stepI (p : LevitatePlant) (x : List Int) (s : LevitateSample) : List Int := tab p.Noise.length fun i => dotP p s.Map.toNat i x / p.Den + gi s.Noise i
def rnV (p : LevitatePlant) : List Int → List LevitateSample → Option (List (List Int))
  | _, [] => some []
  | x, s :: l => if (stepI p x s).all (smallB 100000) then (rnV p (stepI p x s) l).map (stepI p x s :: ·) else none
def rnR : Option (List (List Int)) → List (List Int) × Int
  | some ys => (ys, 0)
  | none => ([], 24)
structure Stt (p : LevitatePlant) (x : List Int) : Prop where
  len : x.length = p.Noise.length
  bd : ∀ k, k < p.Noise.length → -100000 ≤ gi x k ∧ gi x k ≤ 100000
theorem all_small {x : List Int} {n : Nat} (hl : x.length = n) {M : Int} : x.all (smallB M) = true ↔ ∀ k, k < n → -M ≤ gi x k ∧ gi x k ≤ M := by
  subst hl
  rw [List.all_eq_true]
  constructor
  · intro h k hk; exact (small_iff _ _).1 (h _ (gi_mem hk))
  · intro h y hy
    obtain ⟨k, hk, rfl⟩ := mem_gi hy
    exact (small_iff _ _).2 (h k hk)
theorem stE_right {p : LevitatePlant} {x : List Int} : stE p x = 0 ↔ Stt p x := by
  unfold stE
  constructor
  · intro h
    by_cases h1 : x.length = p.Noise.length
    · refine ⟨h1, ?_⟩
      cases h2 : x.all (smallB 100000) with
      | true => exact (all_small h1).1 h2
      | false => simp [h1, h2] at h
    · simp [h1] at h
  · intro h
    simp [h.len, (all_small h.len).2 h.bd]
theorem dotP_b {p : LevitatePlant} (h : Rp p) {m i : Nat} (hm : m < p.Maps.length) (hi : i < p.Noise.length) {x : List Int} (hx : ∀ k, k < p.Noise.length → -100000 ≤ gi x k ∧ gi x k ≤ 100000) : -300000000 ≤ dotP p m i x ∧ dotP p m i x ≤ 300000000 :=
  sumN_abs3 h.n3 (by decide) fun k hk => abs_mul (h.ge_b hm hi hk) (hx k hk)
theorem stepI_len (p : LevitatePlant) (x : List Int) (s : LevitateSample) : (stepI p x s).length = p.Noise.length := tab_len _ _
theorem stepI_stt {p : LevitatePlant} {x : List Int} {s : LevitateSample} : Stt p (stepI p x s) ↔ (stepI p x s).all (smallB 100000) = true :=
  ⟨fun h => (all_small h.len).2 h.bd, fun h => ⟨stepI_len _ _ _, (all_small (stepI_len _ _ _)).1 h⟩⟩
theorem step_ok {p : LevitatePlant} (h : Rp p) {x : List Int} (hx : Stt p x) {s : LevitateSample} (hs : Sm p s) : loop (levitate_plant_run_s0 s (gm p s.Map.toNat) ⟨p⟩ x) ([], 0) = some (stepI p x s) := by
  have hm : s.Map.toNat < p.Maps.length := by have := hs.m0; have := hs.m1; omega
  have hrl : (gm p s.Map.toNat).length = p.Noise.length := h.sq _ (gm_mem hm)
  have hn := h.n3
  refine loop_list p.Noise.length _ ?_ ?_
  · intro i hi acc hacc
    unfold levitate_plant_run_s0
    dsimp only
    have hd := h.den
    have hb := dotP_b h hm hi hx.bd
    have hg : gi (gm p s.Map.toNat)[i]! 0 = gi (gm p s.Map.toNat)[i]! 0 := rfl
    rw [lt_nat (by omega), cond_true, idx_gr (by omega), Option.bind_some, idx_gi (by have := hs.len; omega), Option.bind_some, dot_ok (by rw [h.row_len hm hi, hx.len]; exact Nat.le_refl _) (by rw [h.row_len hm hi]; omega), Option.bind_some, h.row_len hm hi]
    change Option.bind (levitate_floor_spec (w64 (dotP p s.Map.toNat i x)) p.Den) _ = _
    rw [w64_id (by omega), lfloor_ok (by omega) hd.1 (by omega), Option.bind_some]
    have h1 := div_bd hd.1 hb
    have h2 := hs.nz i hi
    have h3 := h.noise_b hi
    rw [w64_id (by omega), app_ok (by simp; omega), Option.bind_some, w64n i (by omega)]
  · intro acc
    unfold levitate_plant_run_s0
    dsimp only
    rw [hrl, lt_nat_no]; rfl
theorem run_ok {p : LevitatePlant} (h : Rp p) {l : List LevitateSample} (hl : l.length < 1000) (hs : ∀ s ∈ l, Sm p s) {x : List Int} (hx : Stt p x) : levitate_plant_run_spec ⟨p⟩ x l = some (rnR (rnV p x l)) := by
  unfold levitate_plant_run_spec
  have key : ∀ (r l0 : List LevitateSample) (x : List Int) (acc : List (List Int)), l = l0 ++ r → acc.length = l0.length → Stt p x →
      loop (levitate_plant_run_s1 l ⟨p⟩) ((l0.length : Int), acc, x) = some (match rnV p x r with | some ys => .inr (acc ++ ys) | none => .inl ([], 24)) := by
    intro r
    induction r with
    | nil =>
      intro l0 x acc he ha hx
      refine loop_inr ?_
      unfold levitate_plant_run_s1
      dsimp only
      rw [he, List.append_nil, lt_nat_no]
      simp [rnV]
    | cons s r ih =>
      intro l0 x acc he ha hx
      have hlt : l0.length < l.length := by rw [he]; simp
      have hel : l[l0.length]'hlt = s := by simp [he]
      have hsm := hs s (by rw [he]; simp)
      have hm : s.Map.toNat < p.Maps.length := by have := hsm.m0; have := hsm.m1; omega
      have em : s.Map = (s.Map.toNat : Int) := by have := hsm.m0; omega
      have hstep := step_ok h hx hsm
      have hsl := stepI_len p x s
      have hn := h.n3
      have ea : levitate_allSmall_spec 100000 = some 100000 := rfl
      have st : levitate_plant_run_s1 l ⟨p⟩ ((l0.length : Int), acc, x) = if (stepI p x s).all (smallB 100000) then some (.inl (((l0 ++ [s]).length : Int), acc ++ [stepI p x s], stepI p x s)) else some (.inr (.inl ([], 24))) := by
        unfold levitate_plant_run_s1
        dsimp only
        rw [lt_nat hlt, cond_true, idx_nat hlt, Option.bind_some, hel]
        have ei : idx p.Maps s.Map = some (gm p s.Map.toNat) := by rw [em]; exact idx_gm hm
        rw [ei, Option.bind_some, hstep, Option.bind_some, ea, Option.bind_some, allSmall_ok _ 100000 (by decide) (by omega), Option.bind_some]
        cases hb : (stepI p x s).all (smallB 100000) with
        | false => rfl
        | true =>
          have hal : acc.length < 1000 := by omega
          simp only [Bool.not_true, cond_false, Option.bind_some, if_true]
          rw [app_ok (by simp; omega), Option.bind_some, w64n _ (by omega), allSmall_ok _ 100000 (by decide) (by omega), Option.bind_some, hb]
          simp
      cases hb : (stepI p x s).all (smallB 100000) with
      | false =>
        rw [hb] at st
        rw [loop_inr st, rnV, if_neg (by simp [hb])]
      | true =>
        rw [hb] at st
        rw [loop_inl st, ih (l0 ++ [s]) _ _ (by rw [he]; simp) (by simp [ha]) (stepI_stt.2 hb), rnV, if_pos hb]
        cases rnV p (stepI p x s) r <;> simp
  have := key l [] x [] rfl rfl hx
  change loop (levitate_plant_run_s1 l ⟨p⟩) (0, [], x) = _ at this
  rw [this]
  cases rnV p x l <;> rfl
def runR (p : LevitatePlant) (x : List Int) (l : List LevitateSample) : List (List Int) × Int := if opR p x l = 0 then rnR (rnV p x l) else ([], opR p x l)
theorem RunOf_ok {p : LevitatePlant} (h : Sh p) {x : List Int} (hx : x.length < 1073741824) {l : List LevitateSample} (hl : l.length < 1073741824) (hs : ∀ s ∈ l, s.Noise.length < 1073741824) : levitate_RunOf_spec p x l = some (runR p x l) := by
  unfold levitate_RunOf_spec runR
  rw [lopenRun_ok h hx hl hs, Option.bind_some]
  by_cases h0 : opR p x l = 0
  · rw [if_pos h0, decide_eq_true h0]
    unfold opR at h0
    split at h0
    · exact absurd h0 (by assumption)
    · rename_i h1
      split at h0
      · exact absurd h0 (by assumption)
      · rename_i h2
        split at h0
        · omega
        · rename_i h3
          have hp := ckP_right.1 (Classical.not_not.1 h1)
          simp only [Bool.not_true, cond_false]
          change Option.bind (levitate_plant_run_spec ⟨p⟩ x l) _ = _
          rw [run_ok hp (by omega) (smsE_right.1 h0) (stE_right.1 (Classical.not_not.1 h2))]
          rfl
  · rw [if_neg h0, decide_eq_false h0]; rfl
def stpR (p : LevitatePlant) (x : List Int) (s : LevitateSample) : List Int × Int :=
  if opR p x [s] = 0 then (if (stepI p x s).all (smallB 100000) then (stepI p x s, 0) else ([], 24)) else ([], opR p x [s])
theorem StepOf_ok {p : LevitatePlant} (h : Sh p) {x : List Int} (hx : x.length < 1073741824) {s : LevitateSample} (hs : s.Noise.length < 1073741824) : levitate_StepOf_spec p x s = some (stpR p x s) := by
  unfold levitate_StepOf_spec
  rw [RunOf_ok h hx (by simp) (by simpa using hs), Option.bind_some]
  unfold runR stpR
  by_cases h0 : opR p x [s] = 0
  · rw [if_pos h0, if_pos h0]
    cases hb : (stepI p x s).all (smallB 100000) with
    | true => simp [rnV, rnR, hb, idx]
    | false => simp [rnV, rnR, hb]
  · rw [if_neg h0, if_neg h0]
    simp only [h0, decide_false, Bool.not_false, cond_true]

/-! ### The examples -/
theorem ex_step : levitate_StepOf_spec exP [20, -10] ⟨0, [1, -1]⟩ = some ([11, -1], 0) := by
  rw [StepOf_ok exP_right.sh (by decide) (by decide)]; decide
theorem ex_force : levitate_ForceOf_spec 1000 ⟨10, 20⟩ ⟨5, 10⟩ = some (⟨1000, 16000⟩, 0) := by
  unfold levitate_ForceOf_spec levitate_isFactor_spec levitate_ends_95_spec levitate_ends_96_spec levitate_isCurrent_spec levitate_isGap_spec
  simp only [lwithin_ok, lunless_ok, first2, Option.bind_some]
  rw [show levitate_floor_spec (w64 (w64 (1000 * 10) * 10)) (w64 (10 * 10)) = some 1000 by decide, show levitate_ceil_spec (w64 (w64 (1000 * 20) * 20)) (w64 (5 * 5)) = some 16000 by decide]
  rfl
theorem ex_read : levitate_reading_whole_spec 1120403456 = some true ∧ levitate_reading_whole_spec 1120796672 = some true ∧ levitate_reading_whole_spec 1132068864 = some true := by decide +kernel
theorem ex_in : (fGe 1120403456 0 && fLe 1120403456 1161527296) = true ∧ (fGe 1120796672 0 && fLe 1120796672 1161527296) = true ∧ (fGe 1132068864 0 && fLe 1132068864 1161527296) = true := by decide +kernel
theorem ex_int : fToI 1120403456 = some 100 ∧ fToI 1120796672 = some 103 ∧ fToI 1132068864 = some 250 := by decide +kernel
theorem srtI_id {l : List Int} (h : 0 < l.length) (h1 : l.length ≤ 1073741824) (hs : l.Pairwise fun x y => decide (x ≤ y) = true) : srtI l = some l := by
  unfold srtI
  rw [if_pos ⟨h, h1⟩, List.mergeSort_of_pairwise hs]
theorem ex_mid : levitate_MiddleOf_spec ⟨⟨1120403456, 1120796672, 1132068864⟩, 5⟩ = some (103, 0) := by
  unfold levitate_MiddleOf_spec
  have st : ∀ (k : Nat) (acc : List Int) (f : Nat) (n : Int), k < 3 → idx [(1120403456 : Nat), 1120796672, 1132068864] (k : Int) = some f → levitate_reading_whole_spec f = some true → (fGe f 0 && fLe f 1161527296) = true → fToI f = some n → acc.length < 3 →
      levitate_MiddleOf_s0 ⟨⟨1120403456, 1120796672, 1132068864⟩, 5⟩ (acc, (k : Int)) = some (.inl (acc ++ [n], ((k + 1 : Nat) : Int))) := by
    intro k acc f n hk hi hw hin hn ha
    unfold levitate_MiddleOf_s0
    dsimp only
    rw [decide_eq_true (show (k : Int) < 3 by omega), cond_true, hi, Option.bind_some, hw, Option.bind_some, lunless_ok, Option.bind_some, hin, lunless_ok, Option.bind_some, cond_true, first2, Option.bind_some, if_pos rfl]
    rw [show (!decide ((bif true then (0 : Int) else 2) = 0)) = false from rfl, cond_false, hn, Option.bind_some]
    rw [app_ok (by simp; omega), Option.bind_some, w64n k (by omega)]
  have key : loop (levitate_MiddleOf_s0 ⟨⟨1120403456, 1120796672, 1132068864⟩, 5⟩) ([], 0) = some (.inr [100, 103, 250]) := by
    refine (loop_inl (st 0 [] _ _ (by decide) rfl ex_read.1 ex_in.1 ex_int.1 (by decide))).trans ?_
    refine (loop_inl (st 1 _ _ _ (by decide) rfl ex_read.2.1 ex_in.2.1 ex_int.2.1 (by decide))).trans ?_
    refine (loop_inl (st 2 _ _ _ (by decide) rfl ex_read.2.2 ex_in.2.2 ex_int.2.2 (by decide))).trans ?_
    exact loop_inr rfl
  rw [key, Option.bind_some]
  unfold jn0
  dsimp only
  rw [srtI_id (by decide) (by decide) (by decide)]
  rfl
theorem awake_ok : law02_awake_spec = some true := by
  unfold law02_awake_spec law02_Plant_spec law02_Form_spec
  simp only [Option.bind_some]
  change Option.bind (levitate_StepOf_spec exP [20, -10] ⟨0, [1, -1]⟩) _ = _
  rw [ex_step, Option.bind_some]
  change Option.bind (levitate_LeastBox_spec exP [0, 0]) _ = _
  rw [ex_box, Option.bind_some]
  change Option.bind (levitate_LeastLevel_spec exP exF ⟨1, 2⟩) _ = _
  rw [ex_level, Option.bind_some, ex_force, Option.bind_some, ex_mid]
  simp only [Option.bind_some, decide_true, cond_true, Bool.and_true, Ints_ok [11, -1] [11, -1] (by decide), Ints_ok [6, 4] [6, 4] (by decide)]
end Go.Gw
