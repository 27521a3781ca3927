/- Proofs in plain words: which maps lessen a form, levels, bounds. Condition: lists are short. -/
import Derived.Test.YtglaeocolbnpdaaGreatGwLev6
set_option maxRecDepth 4096
set_option linter.unusedSimpArgs false
set_option linter.unusedVariables false
namespace Go.Gw
open Go

/-! ### What a map takes from a form -/
def imI (p : LevitatePlant) (m : Nat) (f : List (List Int)) (i k : Nat) : Int := sumN (fun a => ge p m a i * sumN (fun b => g2 f a b * ge p m b k) p.Noise.length) p.Noise.length
def dI (p : LevitatePlant) (m : Nat) (f : List (List Int)) (r : Arr2_Int) (i k : Nat) : Int := r.e0 * p.Den * p.Den * g2 f i k - r.e1 * imI p m f i k
def dM (p : LevitatePlant) (m : Nat) (f : List (List Int)) (r : Arr2_Int) : List (List Int) := tab2 p.Noise.length (dI p m f r)
structure Rr (r : Arr2_Int) : Prop where
  e1 : 1 ≤ r.e1 ∧ r.e1 ≤ 1000
  e0 : 0 ≤ r.e0 ∧ r.e0 ≤ r.e1
theorem imI_b {p : LevitatePlant} (h : Rp p) {m : Nat} (hm : m < p.Maps.length) {f : List (List Int)} (hb : Bd p.Noise.length f 10000) {i k : Nat} (hi : i < p.Noise.length) (hk : k < p.Noise.length) : -90000000000 ≤ imI p m f i k ∧ imI p m f i k ≤ 90000000000 := by
  have := sumN_abs3 (t := fun a => ge p m a i * sumN (fun b => g2 f a b * ge p m b k) p.Noise.length) (B := 1000 * (3 * (10000 * 1000))) h.n3 (by decide) fun a ha => abs_mul (h.ge_b hm ha hi) (sumN_abs3 h.n3 (by decide) fun b hb' => abs_mul (hb a b ha hb') (h.ge_b hm hb' hk))
  unfold imI; omega
theorem rdd {p : LevitatePlant} (h : Rp p) {r : Arr2_Int} (hr : Rr r) : -1000000 ≤ r.e0 * p.Den ∧ r.e0 * p.Den ≤ 1000000 ∧ -1000000000 ≤ r.e0 * p.Den * p.Den ∧ r.e0 * p.Den * p.Den ≤ 1000000000 := by
  have hd := h.den
  have h0 := hr.e0; have h1 := hr.e1
  have a1 := abs_mul (a := r.e0) (b := p.Den) (A := 1000) (B := 1000) (by omega) (by omega)
  have a2 := abs_mul (a := r.e0 * p.Den) (b := p.Den) (A := 1000000) (B := 1000) (by omega) (by omega)
  omega
theorem dI_b {p : LevitatePlant} (h : Rp p) {m : Nat} (hm : m < p.Maps.length) {f : List (List Int)} (hb : Bd p.Noise.length f 10000) {r : Arr2_Int} (hr : Rr r) {i k : Nat} (hi : i < p.Noise.length) (hk : k < p.Noise.length) :
    (-10000000000000 ≤ r.e0 * p.Den * p.Den * g2 f i k ∧ r.e0 * p.Den * p.Den * g2 f i k ≤ 10000000000000) ∧ (-90000000000000 ≤ r.e1 * imI p m f i k ∧ r.e1 * imI p m f i k ≤ 90000000000000) := by
  have hx := rdd h hr
  have a3 := abs_mul (a := r.e0 * p.Den * p.Den) (A := 1000000000) (by omega) (hb i k hi hk)
  have a4 := abs_mul (a := r.e1) (A := 1000) (by have := hr.e1; omega) (imI_b h hm hb hi hk)
  omega
theorem col_ok {p : LevitatePlant} (h : Rp p) {m : Nat} (hm : m < p.Maps.length) {k : Nat} (hk : k < p.Noise.length) : levitate_plant_lessens_1_spec (k : Int) (gm p m) = some (tab p.Noise.length fun a => ge p m a k) := by
  unfold levitate_plant_lessens_1_spec
  have hl := h.sq _ (gm_mem hm)
  have h3 := h.n3
  have : loop (levitate_plant_lessens_1_s0 (gm p m) (k : Int)) ([], 0) = some (tab p.Noise.length fun a => ge p m a k) := by
    refine loop_list p.Noise.length (fun a => ge p m a k) (fun a ha acc hacc => ?_) (fun acc => ?_)
    · unfold levitate_plant_lessens_1_s0
      dsimp only
      rw [hl, lt_nat ha, cond_true, idx_gr (by rw [hl]; exact ha), Option.bind_some, idx_gi (by rw [h.row_len hm ha]; exact hk), Option.bind_some, app_ok (by simp [hacc]; omega), Option.bind_some, w64n a (by omega)]; rfl
    · unfold levitate_plant_lessens_1_s0
      dsimp only
      rw [hl, lt_nat_no]; rfl
  rw [this]; rfl
theorem lessens_ok {p : LevitatePlant} (h : Rp p) {m : Nat} (hm : m < p.Maps.length) {f : List (List Int)} (hf : Sq p.Noise.length f) (hb : Bd p.Noise.length f 10000) {r : Arr2_Int} (hr : Rr r) :
    levitate_plant_lessens_spec ⟨p⟩ (m : Int) f r = some (nevB p.Noise.length (dM p m f r)) := by
  unfold levitate_plant_lessens_spec
  have h3 := h.n3
  rw [idx_gm hm, Option.bind_some]
  have hx := rdd h hr
  have him : ∀ i k, i < p.Noise.length → k < p.Noise.length → loop (levitate_plant_lessens_s0 (gm p m) f (i : Int) (k : Int)) (0, 0) = some (imI p m f i k) := by
    intro i k hi hk
    rw [loop_sum p.Noise.length (fun a => ge p m a i * sumN (fun b => g2 f a b * ge p m b k) p.Noise.length)]
    · have := imI_b h hm hb hi hk
      rw [w64_id (by unfold imI at this; omega)]; rfl
    · intro a ha acc
      unfold levitate_plant_lessens_s0
      dsimp only
      rw [hf.len, lt_nat ha, cond_true, idx_gr (by rw [hf.len]; exact ha), Option.bind_some, col_ok h hm hi, Option.bind_some, idx_gi (by rw [tab_len]; exact ha), Option.bind_some, col_ok h hm hk, Option.bind_some,
        dot_ok (by rw [hf.row a ha, tab_len]; omega) (by rw [hf.row a ha]; omega), Option.bind_some, w64_add', hf.row a ha, gi_tab ha, w64n a (by omega)]
      congr 3
      rw [← w64_add', w64_mul', w64_add']
      congr 3
      exact sumN_congr fun b hb' => by rw [gi_tab hb']; rfl
    · intro acc
      unfold levitate_plant_lessens_s0
      dsimp only
      rw [hf.len, lt_nat_no]; rfl
  have hd : loop (levitate_plant_lessens_s2 (gm p m) ⟨p⟩ r f) ([], 0) = some (dM p m f r) := by
    refine loop_list p.Noise.length (fun i => tab p.Noise.length (dI p m f r i)) (fun i hi acc hacc => ?_) (fun acc => ?_)
    · unfold levitate_plant_lessens_s2
      dsimp only
      rw [hf.len, lt_nat hi, cond_true, idx_gr (by rw [hf.len]; exact hi), Option.bind_some]
      have hrow : loop (levitate_plant_lessens_s1 (gm p m) (gr f i) ⟨p⟩ r f (i : Int)) ([], 0) = some (tab p.Noise.length (dI p m f r i)) := by
        refine loop_list p.Noise.length (dI p m f r i) (fun k hk acc2 hacc2 => ?_) (fun acc2 => ?_)
        · unfold levitate_plant_lessens_s1
          dsimp only
          have hb2 := dI_b h hm hb hr hi hk
          rw [hf.row i hi, lt_nat hk, cond_true, idx_gi (by rw [hf.row i hi]; exact hk), Option.bind_some, him i k hi hk, Option.bind_some]
          rw [w64_id (x := r.e0 * p.Den) (by omega), w64_id (x := r.e0 * p.Den * p.Den) (by omega)]
          change Option.bind (app acc2 [w64 (w64 (r.e0 * p.Den * p.Den * g2 f i k) - w64 (r.e1 * imI p m f i k))]) _ = _
          rw [w64_id (x := r.e0 * p.Den * p.Den * g2 f i k) (by omega), w64_id (x := r.e1 * imI p m f i k) (by omega), w64_id (by omega), app_ok (by simp [hacc2]; omega), Option.bind_some, w64n k (by omega)]; rfl
        · unfold levitate_plant_lessens_s1
          dsimp only
          rw [hf.row i hi, lt_nat_no]; rfl
      rw [hrow, Option.bind_some, app_ok (by simp [hacc]; omega), Option.bind_some, w64n i (by omega)]
    · unfold levitate_plant_lessens_s2
      dsimp only
      rw [hf.len, lt_nat_no]; rfl
  rw [hd, Option.bind_some, never_ok (d := dM p m f r) h.n1 h3 (sq_tab2 _ _) (fun i k hi hk => by
    unfold dM; rw [g2_tab2 hi hk]
    have := dI_b h hm hb hr hi hk
    unfold dI; omega)]; rfl

/-! ### What proves -/
def rateB (r : Arr2_Int) : Bool := (decide (1 ≤ r.e1) && decide (r.e1 ≤ 1000)) && (decide (0 ≤ r.e0) && decide (r.e0 ≤ r.e1))
theorem rateB_iff {r : Arr2_Int} : rateB r = true ↔ Rr r := by
  unfold rateB
  simp only [Bool.and_eq_true, decide_eq_true_eq]
  exact ⟨fun h => ⟨h.1, h.2⟩, fun h => ⟨h.e1, h.e0⟩⟩
def lsM (p : LevitatePlant) (f : List (List Int)) (r : Arr2_Int) : Option Nat := fs (fun m _ => if nevB p.Noise.length (dM p m f r) then none else some m) 0 p.Maps
def pvV (p : LevitatePlant) (f : List (List Int)) (r : Arr2_Int) : Int × Int :=
  if rateB r then (if posB f then (match lsM p f r with | some m => ((m : Int), 24) | none => (0, 0)) else (0, 20)) else (0, 2)
theorem openForm_ok (p : LevitatePlant) (f : List (List Int)) (h : Sh p) (hl : f.length < 1073741824) : levitate_openForm_spec p f = some (⟨p⟩, if (ckP p).2 = 0 then (if frmE f = 0 then (if f.length = p.Noise.length then 0 else 13) else frmE f) else (ckP p).2) := by
  unfold levitate_openForm_spec
  simp only [lopen_ok p h, Option.bind_some, lformErr_ok f hl, lunless_ok, first3, len_dec]
  by_cases h1 : (ckP p).2 = 0 <;> by_cases h2 : frmE f = 0 <;> by_cases h3 : f.length = p.Noise.length <;> simp [h1, h2, h3]
theorem proves_ok {p : LevitatePlant} (h : Rp p) {f : List (List Int)} (hf : Rf f) (hn : f.length = p.Noise.length) (r : Arr2_Int) : levitate_proves_spec p f r = some (⟨p⟩, pvV p f r) := by
  unfold levitate_proves_spec
  have h3 := h.n3
  have hsq : Sq p.Noise.length f := by rw [← hn]; exact hf.sq
  have hbd : Bd p.Noise.length f 10000 := by rw [← hn]; exact hf.bd
  rw [openForm_ok p f h.sh (by omega)]
  simp only [Option.bind_some, h.ck, frmE_right.2 hf, hn, if_true, lwithin_ok]
  have e : ∀ b c : Bool, (bif b then some c else some default) = some (b && c) := by intro b c; cases b <;> rfl
  simp only [e, Option.bind_some, lunless_ok, first2, if_true]
  have e2 : ((decide (1 ≤ r.e1) && decide (r.e1 ≤ 1000)) && ((decide (1 ≤ r.e1) && decide (r.e1 ≤ 1000)) && (decide (0 ≤ r.e0) && decide (r.e0 ≤ r.e1)))) = rateB r := by
    unfold rateB; cases (decide (1 ≤ r.e1) && decide (r.e1 ≤ 1000)) <;> rfl
  rw [e2]
  unfold pvV
  cases hr : rateB r with
  | false => simp
  | true =>
    have hrr := rateB_iff.1 hr
    have hp := positive_ok hf.sq hf.n3 (hf.bd.mono (by decide))
    simp only [cond_true, decide_true, hp, Option.bind_some, lunless_ok, if_true]
    cases hpos : posB f with
    | false => simp
    | true =>
      have hloop : loop (levitate_proves_s0 f p r (⟨p⟩, 0)) 0 = some (oi ((lsM p f r).map fun m : Nat => ((⟨p⟩, (m : Int), 24) : levitate_plant × Int × Int))) := by
        rw [loop_fs p.Maps (fun m _ => (if nevB p.Noise.length (dM p m f r) then none else some m).map fun m : Nat => ((⟨p⟩, (m : Int), 24) : levitate_plant × Int × Int))]
        · rw [map_fs (fun m : Nat => ((⟨p⟩, (m : Int), 24) : levitate_plant × Int × Int)) (fun m _ => if nevB p.Noise.length (dM p m f r) then none else some m)]; rfl
        · intro m hm
          unfold levitate_proves_s0
          rw [lt_nat hm, cond_true]
          change Option.bind (levitate_plant_lessens_spec ⟨p⟩ (m : Int) f r) _ = _
          rw [lessens_ok h hm hsq hbd hrr, Option.bind_some, w64n m (by have := h.m4; omega)]
          cases nevB p.Noise.length (dM p m f r) <;> rfl
        · unfold levitate_proves_s0
          rw [lt_nat_no]; rfl
      simp only [cond_true, decide_true, Bool.not_true, cond_false, if_true]
      rw [hloop]
      cases lsM p f r <;> rfl

/-! ### Levels -/
def kptB (level worst : Int) (r : Arr2_Int) : Bool :=
  decide (0 ≤ (r.e1 - r.e0) * level - r.e1 * worst) && decide (4 * r.e0 * r.e1 * level * worst ≤ ((r.e1 - r.e0) * level - r.e1 * worst) * ((r.e1 - r.e0) * level - r.e1 * worst))
theorem kept_ok {level worst : Int} {r : Arr2_Int} (hr : Rr r) (hl : 0 ≤ level ∧ level ≤ 100000000000000) (hw : -9002000000000000 ≤ worst ∧ worst ≤ 9002000000000000) : levitate_kept_spec level worst r = some (kptB level worst r) := by
  unfold levitate_kept_spec
  have h0 := hr.e0; have h1 := hr.e1
  have a1 := abs_mul (a := r.e1 - r.e0) (b := level) (A := 1000) (B := 100000000000000) (by omega) (by omega)
  have a2 := abs_mul (a := r.e1) (b := worst) (A := 1000) (B := 9002000000000000) (by omega) (by omega)
  have a3 := abs_mul (a := 4 * r.e0) (b := r.e1) (A := 4000) (B := 1000) (by omega) (by omega)
  have a4 := abs_mul (a := 4 * r.e0 * r.e1) (b := level) (A := 4000000) (B := 100000000000000) (by omega) (by omega)
  have a5 := abs_mul (a := 4 * r.e0 * r.e1 * level) (b := worst) (A := 400000000000000000000) (B := 9002000000000000) (by omega) (by omega)
  rw [w64_id (x := r.e1 - r.e0) (by omega), wideOf_ok (by omega), Option.bind_some, wideOf_ok (n := level) (by omega), Option.bind_some, times_ok, Option.bind_some, wideOf_ok (n := r.e1) (by omega), Option.bind_some, wideOf_ok (n := worst) (by omega), Option.bind_some, times_ok, Option.bind_some, less_ok, Option.bind_some]
  rw [w64_id (x := 4 * r.e0) (by omega), w64_id (x := 4 * r.e0 * r.e1) (by omega), wideOf_ok (n := 4 * r.e0 * r.e1) (by omega)]
  generalize hA : (r.e1 - r.e0) * level - r.e1 * worst = A
  have hA1 : -10000000000000000000 ≤ A ∧ A ≤ 10000000000000000000 := by omega
  have a6 := abs_mul hA1 hA1
  simp only [below_int (x := A) (by omega), Option.bind_some, wideOf_ok (n := level) (show -9223372036854775808 ≤ level ∧ level ≤ 9223372036854775807 by omega), wideOf_ok (n := worst) (show -9223372036854775808 ≤ worst ∧ worst ≤ 9223372036854775807 by omega), times_ok, less_ok]
  rw [below_int (by omega)]
  unfold kptB
  rw [hA]
  generalize 4 * r.e0 * r.e1 * level * worst = B
  generalize A * A = C
  by_cases h4 : A < 0
  · have : ¬ 0 ≤ A := by omega
    simp [h4, this]
  · have : 0 ≤ A := by omega
    by_cases h5 : C - B < 0
    · have : ¬ B ≤ C := by omega
      simp [h4, *]
    · have : B ≤ C := by omega
      simp [h4, *]

/-! ### The least number -/
theorem least_run {step : (Int × Int) → Option ((Int × Int) ⊕ Int)} (P : Int → Bool) (most : Int) (h0 : 0 ≤ most) (hm : most ≤ 1000000000000000)
    (hs : ∀ lo hi, -1 ≤ lo → lo < hi → hi ≤ most + 1 → 1 < hi - lo → step (lo, hi) = some (.inl (if P (lo + (hi - lo) / 2) then (lo, lo + (hi - lo) / 2) else (lo + (hi - lo) / 2, hi))))
    (he : ∀ lo hi, -1 ≤ lo → lo < hi → hi ≤ most + 1 → ¬ 1 < hi - lo → step (lo, hi) = some (.inr hi)) :
    Runs (loop step (-1, w64 (most + 1))) fun hi => 0 ≤ hi ∧ hi ≤ most + 1 ∧ (hi ≤ most → P hi = true) ∧ (0 < hi → P (hi - 1) = false) := by
  rw [w64_id (by omega)]
  refine Runs.loop (fun s => -1 ≤ s.1 ∧ s.1 < s.2 ∧ s.2 ≤ most + 1 ∧ (s.2 ≤ most → P s.2 = true) ∧ (0 ≤ s.1 → P s.1 = false)) (fun s => (s.2 - s.1).toNat) ⟨by omega, by show (-1 : Int) < most + 1; omega, by show most + 1 ≤ most + 1; omega, fun h => by exfalso; change most + 1 ≤ most at h; omega, fun h => by exfalso; change (0 : Int) ≤ -1 at h; omega⟩ ?_
  rintro ⟨lo, hi⟩ ⟨h1, h2, h3, h4, h5⟩
  dsimp only at h1 h2 h3 h4 h5
  by_cases hd : 1 < hi - lo
  · rw [hs lo hi h1 h2 h3 hd]
    refine Runs.some ?_
    cases hp : P (lo + (hi - lo) / 2) with
    | true =>
      rw [if_pos rfl]
      refine ⟨⟨h1, by dsimp only; omega, by dsimp only; omega, fun _ => hp, h5⟩, ?_⟩
      dsimp only; omega
    | false =>
      rw [if_neg (by simp)]
      refine ⟨⟨by dsimp only; omega, by dsimp only; omega, h3, h4, fun _ => hp⟩, ?_⟩
      dsimp only; omega
  · rw [he lo hi h1 h2 h3 hd]
    refine Runs.some ⟨by omega, h3, h4, fun h => ?_⟩
    have : hi - 1 = lo := by omega
    rw [this]; exact h5 (by omega)
theorem mid_ok {lo hi most : Int} (h1 : -1 ≤ lo) (h2 : lo < hi) (h3 : hi ≤ most + 1) (hm : most ≤ 1000000000000000) : w64 (hi - lo) = hi - lo ∧ w64 (lo + (w64 (Int.tdiv (hi - lo) 2))) = lo + (hi - lo) / 2 := by
  have e1 : w64 (hi - lo) = hi - lo := w64_id (by omega)
  have e2 : Int.tdiv (hi - lo) 2 = (hi - lo) / 2 := Int.tdiv_eq_ediv_of_nonneg (by omega)
  refine ⟨e1, ?_⟩
  rw [e2, w64_id (x := (hi - lo) / 2) (by omega), w64_id (by omega)]
theorem least61_run {worst : Int} {r : Arr2_Int} (hr : Rr r) (hw : -9002000000000000 ≤ worst ∧ worst ≤ 9002000000000000) : Runs (levitate_least_83_spec 100000000000000 worst r) fun q => 0 ≤ q.1 ∧ q.1 ≤ 100000000000001 ∧ (q.1 ≤ 100000000000000 → kptB q.1 worst r = true) ∧ (0 < q.1 → kptB (q.1 - 1) worst r = false) ∧ q.2 = decide (q.1 ≤ 100000000000000) := by
  unfold levitate_least_83_spec
  refine Runs.callR (least_run (fun n => kptB n worst r) 100000000000000 (by decide) (by decide) (fun lo hi h1 h2 h3 hd => ?_) (fun lo hi h1 h2 h3 hd => ?_)) fun hi hh => Runs.some ⟨hh.1, hh.2.1, hh.2.2.1, hh.2.2.2, rfl⟩
  · unfold levitate_least_83_s0
    dsimp only
    have hm := mid_ok h1 h2 h3 (by decide)
    rw [hm.1, hm.2, decide_eq_true hd, cond_true]
    unfold levitate_LeastLevel_1_spec
    rw [kept_ok hr (by omega) hw, Option.bind_some, Option.bind_some]
    cases kptB (lo + (hi - lo) / 2) worst r <;> rfl
  · unfold levitate_least_83_s0
    dsimp only
    have hm := mid_ok h1 h2 h3 (by decide)
    rw [hm.1, decide_eq_false hd]; rfl

/-! ### Bounds -/
/-! ### Proofs -/
end Go.Gw
