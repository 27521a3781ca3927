/- Laws of the walk. Condition: each theorem says its own. -/
import Derived.Test.YtglaeocolbnpdaaGwPl2
section
set_option maxRecDepth 4096
set_option linter.unusedSimpArgs false
set_option linter.unusedVariables false
namespace Go.Gw
open Go

/-! ### What a map takes from a form -/
def imI (p : LevitatePlant) (m : Nat) (f : List (List Int)) (i k : Nat) : Int := sumN (fun a => ge p m a i * sumN (fun b => g2 f a b * ge p m b k) p.Noise.length) p.Noise.length
def dI (p : LevitatePlant) (m : Nat) (f : List (List Int)) (r : Arr2_Int) (i k : Nat) : Int := r.e0 * p.Den * p.Den * g2 f i k - r.e1 * imI p m f i k
def dM (p : LevitatePlant) (m : Nat) (f : List (List Int)) (r : Arr2_Int) : List (List Int) := tab2 p.Noise.length (dI p m f r)
structure Rr (r : Arr2_Int) : Prop where
  e1 : 1 ≤ r.e1 ∧ r.e1 ≤ 1000
  e0 : 0 ≤ r.e0 ∧ r.e0 ≤ r.e1
theorem imI_b {p : LevitatePlant} (h : Rp p) {m : Nat} (hm : m < p.Maps.length) {f : List (List Int)} (hb : Bd p.Noise.length f 10000) {i k : Nat} (hi : i < p.Noise.length) (hk : k < p.Noise.length) : -90000000000 ≤ imI p m f i k ∧ imI p m f i k ≤ 90000000000 := by
  have := sumN_abs3 (t := fun a => ge p m a i * sumN (fun b => g2 f a b * ge p m b k) p.Noise.length) (B := 1000 * (3 * (10000 * 1000))) h.n3 (by decide) fun a ha => abs_mul (h.ge_b hm ha hi) (sumN_abs3 h.n3 (by decide) fun b hb' => abs_mul (hb a b ha hb') (h.ge_b hm hb' hk))
  unfold imI; omega
theorem rdd {p : LevitatePlant} (h : Rp p) {r : Arr2_Int} (hr : Rr r) : -1000000 ≤ r.e0 * p.Den ∧ r.e0 * p.Den ≤ 1000000 ∧ -1000000000 ≤ r.e0 * p.Den * p.Den ∧ r.e0 * p.Den * p.Den ≤ 1000000000 := by
  have hd := h.den
  have h0 := hr.e0; have h1 := hr.e1
  have a1 := abs_mul (a := r.e0) (b := p.Den) (A := 1000) (B := 1000) (by omega) (by omega)
  have a2 := abs_mul (a := r.e0 * p.Den) (b := p.Den) (A := 1000000) (B := 1000) (by omega) (by omega)
  omega
theorem dI_b {p : LevitatePlant} (h : Rp p) {m : Nat} (hm : m < p.Maps.length) {f : List (List Int)} (hb : Bd p.Noise.length f 10000) {r : Arr2_Int} (hr : Rr r) {i k : Nat} (hi : i < p.Noise.length) (hk : k < p.Noise.length) :
    (-10000000000000 ≤ r.e0 * p.Den * p.Den * g2 f i k ∧ r.e0 * p.Den * p.Den * g2 f i k ≤ 10000000000000) ∧ (-90000000000000 ≤ r.e1 * imI p m f i k ∧ r.e1 * imI p m f i k ≤ 90000000000000) := by
  have hx := rdd h hr
  have a3 := abs_mul (a := r.e0 * p.Den * p.Den) (A := 1000000000) (by omega) (hb i k hi hk)
  have a4 := abs_mul (a := r.e1) (A := 1000) (by have := hr.e1; omega) (imI_b h hm hb hi hk)
  omega
theorem col_ok {p : LevitatePlant} (h : Rp p) {m : Nat} (hm : m < p.Maps.length) {k : Nat} (hk : k < p.Noise.length) : levitate_plant_lessens_1_spec (k : Int) (gm p m) = some (tab p.Noise.length fun a => ge p m a k) := by
  unfold levitate_plant_lessens_1_spec
  have hl := h.sq _ (gm_mem hm)
  have h3 := h.n3
  have : loop (levitate_plant_lessens_1_s0 (gm p m) (k : Int)) ([], 0) = some (tab p.Noise.length fun a => ge p m a k) := by
    refine loop_list p.Noise.length (fun a => ge p m a k) (fun a ha acc hacc => ?_) (fun acc => ?_)
    · unfold levitate_plant_lessens_1_s0
      dsimp only
      rw [hl, lt_nat ha, cond_true, idx_gr (by rw [hl]; exact ha), Option.bind_some, idx_gi (by rw [h.row_len hm ha]; exact hk), Option.bind_some, app_ok (by simp [hacc]; omega), Option.bind_some, w64n a (by omega)]; rfl
    · unfold levitate_plant_lessens_1_s0
      dsimp only
      rw [hl, lt_nat_no]; rfl
  rw [this]; rfl
theorem lessens_ok {p : LevitatePlant} (h : Rp p) {m : Nat} (hm : m < p.Maps.length) {f : List (List Int)} (hf : Sq p.Noise.length f) (hb : Bd p.Noise.length f 10000) {r : Arr2_Int} (hr : Rr r) :
    levitate_plant_lessens_spec ⟨p⟩ (m : Int) f r = some (nevB p.Noise.length (dM p m f r)) := by
  unfold levitate_plant_lessens_spec
  have h3 := h.n3
  rw [idx_gm hm, Option.bind_some]
  have hx := rdd h hr
  have him : ∀ i k, i < p.Noise.length → k < p.Noise.length → loop (levitate_plant_lessens_s0 (gm p m) f (i : Int) (k : Int)) (0, 0) = some (imI p m f i k) := by
    intro i k hi hk
    rw [loop_sum p.Noise.length (fun a => ge p m a i * sumN (fun b => g2 f a b * ge p m b k) p.Noise.length)]
    · have := imI_b h hm hb hi hk
      rw [w64_id (by unfold imI at this; omega)]; rfl
    · intro a ha acc
      unfold levitate_plant_lessens_s0
      dsimp only
      rw [hf.len, lt_nat ha, cond_true, idx_gr (by rw [hf.len]; exact ha), Option.bind_some, col_ok h hm hi, Option.bind_some, idx_gi (by rw [tab_len]; exact ha), Option.bind_some, col_ok h hm hk, Option.bind_some,
        dot_ok (by rw [hf.row a ha, tab_len]; omega) (by rw [hf.row a ha]; omega), Option.bind_some, w64_add', hf.row a ha, gi_tab ha, w64n a (by omega)]
      congr 3
      rw [← w64_add', w64_mul', w64_add']
      congr 3
      exact sumN_congr fun b hb' => by rw [gi_tab hb']; rfl
    · intro acc
      unfold levitate_plant_lessens_s0
      dsimp only
      rw [hf.len, lt_nat_no]; rfl
  have hd : loop (levitate_plant_lessens_s2 (gm p m) ⟨p⟩ r f) ([], 0) = some (dM p m f r) := by
    refine loop_list p.Noise.length (fun i => tab p.Noise.length (dI p m f r i)) (fun i hi acc hacc => ?_) (fun acc => ?_)
    · unfold levitate_plant_lessens_s2
      dsimp only
      rw [hf.len, lt_nat hi, cond_true, idx_gr (by rw [hf.len]; exact hi), Option.bind_some]
      have hrow : loop (levitate_plant_lessens_s1 (gm p m) (gr f i) ⟨p⟩ r f (i : Int)) ([], 0) = some (tab p.Noise.length (dI p m f r i)) := by
        refine loop_list p.Noise.length (dI p m f r i) (fun k hk acc2 hacc2 => ?_) (fun acc2 => ?_)
        · unfold levitate_plant_lessens_s1
          dsimp only
          have hb2 := dI_b h hm hb hr hi hk
          rw [hf.row i hi, lt_nat hk, cond_true, idx_gi (by rw [hf.row i hi]; exact hk), Option.bind_some, him i k hi hk, Option.bind_some]
          rw [w64_id (x := r.e0 * p.Den) (by omega), w64_id (x := r.e0 * p.Den * p.Den) (by omega)]
          change Option.bind (app acc2 [w64 (w64 (r.e0 * p.Den * p.Den * g2 f i k) - w64 (r.e1 * imI p m f i k))]) _ = _
          rw [w64_id (x := r.e0 * p.Den * p.Den * g2 f i k) (by omega), w64_id (x := r.e1 * imI p m f i k) (by omega), w64_id (by omega), app_ok (by simp [hacc2]; omega), Option.bind_some, w64n k (by omega)]; rfl
        · unfold levitate_plant_lessens_s1
          dsimp only
          rw [hf.row i hi, lt_nat_no]; rfl
      rw [hrow, Option.bind_some, app_ok (by simp [hacc]; omega), Option.bind_some, w64n i (by omega)]
    · unfold levitate_plant_lessens_s2
      dsimp only
      rw [hf.len, lt_nat_no]; rfl
  rw [hd, Option.bind_some, never_ok (d := dM p m f r) h.n1 h3 (sq_tab2 _ _) (fun i k hi hk => by
    unfold dM; rw [g2_tab2 hi hk]
    have := dI_b h hm hb hr hi hk
    unfold dI; omega)]; rfl

/-! ### What proves -/
def rateB (r : Arr2_Int) : Bool := (decide (1 ≤ r.e1) && decide (r.e1 ≤ 1000)) && (decide (0 ≤ r.e0) && decide (r.e0 ≤ r.e1))
theorem rateB_iff {r : Arr2_Int} : rateB r = true ↔ Rr r := by
  unfold rateB
  simp only [Bool.and_eq_true, decide_eq_true_eq]
  exact ⟨fun h => ⟨h.1, h.2⟩, fun h => ⟨h.e1, h.e0⟩⟩
def lsM (p : LevitatePlant) (f : List (List Int)) (r : Arr2_Int) : Option Nat := fs (fun m _ => if nevB p.Noise.length (dM p m f r) then none else some m) 0 p.Maps
def pvV (p : LevitatePlant) (f : List (List Int)) (r : Arr2_Int) : Int × Int :=
  if rateB r then (if posB f then (match lsM p f r with | some m => ((m : Int), 24) | none => (0, 0)) else (0, 20)) else (0, 2)
theorem openForm_ok (p : LevitatePlant) (f : List (List Int)) (h : Sh p) (hl : f.length < 1073741824) : levitate_openForm_spec p f = some (⟨p⟩, if (ckP p).2 = 0 then (if frmE f = 0 then (if f.length = p.Noise.length then 0 else 13) else frmE f) else (ckP p).2) := by
  unfold levitate_openForm_spec
  simp only [lopen_ok p h, Option.bind_some, lformErr_ok f hl, lunless_ok, first3, len_dec]
  by_cases h1 : (ckP p).2 = 0 <;> by_cases h2 : frmE f = 0 <;> by_cases h3 : f.length = p.Noise.length <;> simp [h1, h2, h3]
theorem proves_ok {p : LevitatePlant} (h : Rp p) {f : List (List Int)} (hf : Rf f) (hn : f.length = p.Noise.length) (r : Arr2_Int) : levitate_proves_spec p f r = some (⟨p⟩, pvV p f r) := by
  unfold levitate_proves_spec
  have h3 := h.n3
  have hsq : Sq p.Noise.length f := by rw [← hn]; exact hf.sq
  have hbd : Bd p.Noise.length f 10000 := by rw [← hn]; exact hf.bd
  rw [openForm_ok p f h.sh (by omega)]
  simp only [Option.bind_some, h.ck, frmE_right.2 hf, hn, if_true, lwithin_ok]
  have e : ∀ b c : Bool, (bif b then some c else some default) = some (b && c) := by intro b c; cases b <;> rfl
  simp only [e, Option.bind_some, lunless_ok, first2, if_true]
  have e2 : ((decide (1 ≤ r.e1) && decide (r.e1 ≤ 1000)) && ((decide (1 ≤ r.e1) && decide (r.e1 ≤ 1000)) && (decide (0 ≤ r.e0) && decide (r.e0 ≤ r.e1)))) = rateB r := by
    unfold rateB; cases (decide (1 ≤ r.e1) && decide (r.e1 ≤ 1000)) <;> rfl
  rw [e2]
  unfold pvV
  cases hr : rateB r with
  | false => simp
  | true =>
    have hrr := rateB_iff.1 hr
    have hp := positive_ok hf.sq hf.n3 (hf.bd.mono (by decide))
    simp only [cond_true, decide_true, hp, Option.bind_some, lunless_ok, if_true]
    cases hpos : posB f with
    | false => simp
    | true =>
      have hloop : loop (levitate_proves_s0 f p r (⟨p⟩, 0)) 0 = some (oi ((lsM p f r).map fun m : Nat => ((⟨p⟩, (m : Int), 24) : levitate_plant × Int × Int))) := by
        rw [loop_fs p.Maps (fun m _ => (if nevB p.Noise.length (dM p m f r) then none else some m).map fun m : Nat => ((⟨p⟩, (m : Int), 24) : levitate_plant × Int × Int))]
        · rw [map_fs (fun m : Nat => ((⟨p⟩, (m : Int), 24) : levitate_plant × Int × Int)) (fun m _ => if nevB p.Noise.length (dM p m f r) then none else some m)]; rfl
        · intro m hm
          unfold levitate_proves_s0
          rw [lt_nat hm, cond_true]
          change Option.bind (levitate_plant_lessens_spec ⟨p⟩ (m : Int) f r) _ = _
          rw [lessens_ok h hm hsq hbd hrr, Option.bind_some, w64n m (by have := h.m4; omega)]
          cases nevB p.Noise.length (dM p m f r) <;> rfl
        · unfold levitate_proves_s0
          rw [lt_nat_no]; rfl
      simp only [cond_true, decide_true, Bool.not_true, cond_false, if_true]
      rw [hloop]
      cases lsM p f r <;> rfl

/-! ### Levels -/
def kptB (level worst : Int) (r : Arr2_Int) : Bool :=
  decide (0 ≤ (r.e1 - r.e0) * level - r.e1 * worst) && decide (4 * r.e0 * r.e1 * level * worst ≤ ((r.e1 - r.e0) * level - r.e1 * worst) * ((r.e1 - r.e0) * level - r.e1 * worst))
theorem kept_ok {level worst : Int} {r : Arr2_Int} (hr : Rr r) (hl : 0 ≤ level ∧ level ≤ 100000000000000) (hw : -9002000000000000 ≤ worst ∧ worst ≤ 9002000000000000) : levitate_kept_spec level worst r = some (kptB level worst r) := by
  unfold levitate_kept_spec
  have h0 := hr.e0; have h1 := hr.e1
  have a1 := abs_mul (a := r.e1 - r.e0) (b := level) (A := 1000) (B := 100000000000000) (by omega) (by omega)
  have a2 := abs_mul (a := r.e1) (b := worst) (A := 1000) (B := 9002000000000000) (by omega) (by omega)
  have a3 := abs_mul (a := 4 * r.e0) (b := r.e1) (A := 4000) (B := 1000) (by omega) (by omega)
  have a4 := abs_mul (a := 4 * r.e0 * r.e1) (b := level) (A := 4000000) (B := 100000000000000) (by omega) (by omega)
  have a5 := abs_mul (a := 4 * r.e0 * r.e1 * level) (b := worst) (A := 400000000000000000000) (B := 9002000000000000) (by omega) (by omega)
  rw [w64_id (x := r.e1 - r.e0) (by omega), wideOf_ok (by omega), Option.bind_some, wideOf_ok (n := level) (by omega), Option.bind_some, times_ok, Option.bind_some, wideOf_ok (n := r.e1) (by omega), Option.bind_some, wideOf_ok (n := worst) (by omega), Option.bind_some, times_ok, Option.bind_some, less_ok, Option.bind_some]
  rw [w64_id (x := 4 * r.e0) (by omega), w64_id (x := 4 * r.e0 * r.e1) (by omega), wideOf_ok (n := 4 * r.e0 * r.e1) (by omega)]
  generalize hA : (r.e1 - r.e0) * level - r.e1 * worst = A
  have hA1 : -10000000000000000000 ≤ A ∧ A ≤ 10000000000000000000 := by omega
  have a6 := abs_mul hA1 hA1
  simp only [below_int (x := A) (by omega), Option.bind_some, wideOf_ok (n := level) (show -9223372036854775808 ≤ level ∧ level ≤ 9223372036854775807 by omega), wideOf_ok (n := worst) (show -9223372036854775808 ≤ worst ∧ worst ≤ 9223372036854775807 by omega), times_ok, less_ok]
  rw [below_int (by omega)]
  unfold kptB
  rw [hA]
  generalize 4 * r.e0 * r.e1 * level * worst = B
  generalize A * A = C
  by_cases h4 : A < 0
  · have : ¬ 0 ≤ A := by omega
    simp [h4, this]
  · have : 0 ≤ A := by omega
    by_cases h5 : C - B < 0
    · have : ¬ B ≤ C := by omega
      simp [h4, *]
    · have : B ≤ C := by omega
      simp [h4, *]

/-! ### The least number -/
theorem least_run {step : (Int × Int) → Option ((Int × Int) ⊕ Int)} (P : Int → Bool) (most : Int) (h0 : 0 ≤ most) (hm : most ≤ 1000000000000000)
    (hs : ∀ lo hi, -1 ≤ lo → lo < hi → hi ≤ most + 1 → 1 < hi - lo → step (lo, hi) = some (.inl (if P (lo + (hi - lo) / 2) then (lo, lo + (hi - lo) / 2) else (lo + (hi - lo) / 2, hi))))
    (he : ∀ lo hi, -1 ≤ lo → lo < hi → hi ≤ most + 1 → ¬ 1 < hi - lo → step (lo, hi) = some (.inr hi)) :
    Runs (loop step (-1, w64 (most + 1))) fun hi => 0 ≤ hi ∧ hi ≤ most + 1 ∧ (hi ≤ most → P hi = true) ∧ (0 < hi → P (hi - 1) = false) := by
  rw [w64_id (by omega)]
  refine Runs.loop (fun s => -1 ≤ s.1 ∧ s.1 < s.2 ∧ s.2 ≤ most + 1 ∧ (s.2 ≤ most → P s.2 = true) ∧ (0 ≤ s.1 → P s.1 = false)) (fun s => (s.2 - s.1).toNat) ⟨by omega, by show (-1 : Int) < most + 1; omega, by show most + 1 ≤ most + 1; omega, fun h => by exfalso; change most + 1 ≤ most at h; omega, fun h => by exfalso; change (0 : Int) ≤ -1 at h; omega⟩ ?_
  rintro ⟨lo, hi⟩ ⟨h1, h2, h3, h4, h5⟩
  dsimp only at h1 h2 h3 h4 h5
  by_cases hd : 1 < hi - lo
  · rw [hs lo hi h1 h2 h3 hd]
    refine Runs.some ?_
    cases hp : P (lo + (hi - lo) / 2) with
    | true =>
      rw [if_pos rfl]
      refine ⟨⟨h1, by dsimp only; omega, by dsimp only; omega, fun _ => hp, h5⟩, ?_⟩
      dsimp only; omega
    | false =>
      rw [if_neg (by simp)]
      refine ⟨⟨by dsimp only; omega, by dsimp only; omega, h3, h4, fun _ => hp⟩, ?_⟩
      dsimp only; omega
  · rw [he lo hi h1 h2 h3 hd]
    refine Runs.some ⟨by omega, h3, h4, fun h => ?_⟩
    have : hi - 1 = lo := by omega
    rw [this]; exact h5 (by omega)
theorem mid_ok {lo hi most : Int} (h1 : -1 ≤ lo) (h2 : lo < hi) (h3 : hi ≤ most + 1) (hm : most ≤ 1000000000000000) : w64 (hi - lo) = hi - lo ∧ w64 (lo + (w64 (Int.tdiv (hi - lo) 2))) = lo + (hi - lo) / 2 := by
  have e1 : w64 (hi - lo) = hi - lo := w64_id (by omega)
  have e2 : Int.tdiv (hi - lo) 2 = (hi - lo) / 2 := Int.tdiv_eq_ediv_of_nonneg (by omega)
  refine ⟨e1, ?_⟩
  rw [e2, w64_id (x := (hi - lo) / 2) (by omega), w64_id (by omega)]
theorem least61_run {worst : Int} {r : Arr2_Int} (hr : Rr r) (hw : -9002000000000000 ≤ worst ∧ worst ≤ 9002000000000000) : Runs (levitate_least_61_spec 100000000000000 worst r) fun q => 0 ≤ q.1 ∧ q.1 ≤ 100000000000001 ∧ (q.1 ≤ 100000000000000 → kptB q.1 worst r = true) ∧ (0 < q.1 → kptB (q.1 - 1) worst r = false) ∧ q.2 = decide (q.1 ≤ 100000000000000) := by
  unfold levitate_least_61_spec
  refine Runs.callR (least_run (fun n => kptB n worst r) 100000000000000 (by decide) (by decide) (fun lo hi h1 h2 h3 hd => ?_) (fun lo hi h1 h2 h3 hd => ?_)) fun hi hh => Runs.some ⟨hh.1, hh.2.1, hh.2.2.1, hh.2.2.2, rfl⟩
  · unfold levitate_least_61_s0
    dsimp only
    have hm := mid_ok h1 h2 h3 (by decide)
    rw [hm.1, hm.2, decide_eq_true hd, cond_true]
    unfold levitate_LeastLevel_1_spec
    rw [kept_ok hr (by omega) hw, Option.bind_some, Option.bind_some]
    cases kptB (lo + (hi - lo) / 2) worst r <;> rfl
  · unfold levitate_least_61_s0
    dsimp only
    have hm := mid_ok h1 h2 h3 (by decide)
    rw [hm.1, decide_eq_false hd]; rfl

/-! ### Bounds -/
/-! ### Proofs -/
theorem pvV_rate {p : LevitatePlant} {f : List (List Int)} {r : Arr2_Int} (h : (pvV p f r).2 = 0) : Rr r := by
  unfold pvV at h
  cases hr : rateB r with
  | true => exact rateB_iff.1 hr
  | false => simp [hr] at h
end Go.Gw

end
section
set_option maxRecDepth 4096
set_option linter.unusedSimpArgs false
set_option linter.unusedVariables false
namespace Go.Gw
open Go

theorem loop_mapS {α β : Type} {step : (Int × List β) → Option ((Int × List β) ⊕ List β)} (xs : List α) (g : α → β)
    (hs : ∀ k (hk : k < xs.length) (acc : List β), acc.length = k → step ((k : Int), acc) = some (.inl (((k + 1 : Nat) : Int), acc ++ [g xs[k]]))) (he : ∀ acc, step ((xs.length : Int), acc) = some (.inr acc)) :
    loop step (0, []) = some (xs.map g) := by
  have key : ∀ k, k ≤ xs.length → loop step (0, []) = loop step ((k : Int), (xs.take k).map g) := by
    intro k
    induction k with
    | zero => intro _; rfl
    | succ k ih =>
      intro hk
      rw [ih (by omega)]
      refine (loop_inl (hs k (by omega) _ (by simp; omega))).trans ?_
      have e : (xs.take (k + 1)).map g = (xs.take k).map g ++ [g xs[k]] := by rw [List.take_succ_eq_append_getElem (by omega), List.map_append]; rfl
      rw [e]
  rw [key _ (Nat.le_refl _), List.take_length]
  exact loop_inr (he _)
theorem CopyInts_ok (l : List Int) (h : l.length ≤ 1073741824) : base_CopyInts_spec l = some l := by
  unfold base_CopyInts_spec; rw [app_ok (by simpa using h)]; simp
theorem CopyLists_ok (l : List (List Int)) (h : l.length ≤ 1073741824) (hr : ∀ r ∈ l, r.length ≤ 1073741824) : base_CopyLists_spec l = some l := by
  unfold base_CopyLists_spec
  rw [loop_map l id]
  · simp
  · intro k hk acc hacc
    unfold base_CopyLists_s0
    dsimp only
    rw [lt_nat hk, cond_true, idx_nat hk, Option.bind_some, CopyInts_ok _ (hr _ (List.getElem_mem hk)), Option.bind_some, app_ok (by simp [hacc]; omega), Option.bind_some, w64n k (by omega)]; rfl
  · intro acc
    unfold base_CopyLists_s0
    dsimp only
    rw [lt_nat_no]; rfl
theorem CopyPlant_ok (p : LevitatePlant) (h : Sh p) : ref02_CopyPlant_spec p = some p := by
  unfold ref02_CopyPlant_spec
  rw [CopyInts_ok _ (by have := h.noise; omega), Option.bind_some, loop_mapS p.Maps id]
  · simp
  · intro k hk acc hacc
    unfold ref02_CopyPlant_s0
    dsimp only
    have hm := List.getElem_mem hk
    rw [lt_nat hk, cond_true, idx_nat hk, Option.bind_some, CopyLists_ok _ (by have := h.rows _ hm; omega) (fun r hr => by have := h.row _ hm _ hr; omega), Option.bind_some, app_ok (by simp [hacc]; have := h.maps; omega), Option.bind_some, w64n k (by have := h.maps; omega)]; rfl
  · intro acc
    unfold ref02_CopyPlant_s0
    dsimp only
    rw [lt_nat_no]; rfl
theorem Ints_ok (a b : List Int) (h : a.length < 1073741824) : base_Ints_spec a b = some (decide (a = b)) := by
  unfold base_Ints_spec
  rw [len_dec]
  by_cases hl : a.length = b.length
  · rw [loop_fs a (fun k x => if gi b k = x then none else some false)]
    · simp only [hl, decide_true, Bool.not_true, cond_false, Option.bind_some]
      cases hf : fs (fun k x => if gi b k = x then none else some false) 0 a with
      | none =>
        rw [fs_none] at hf
        have : a = b := list_ext_gi hl fun k hk => by
          have := hf k hk
          simp only [Nat.zero_add] at this
          split at this
          · rename_i e; rw [← gi_eq hk]; exact e.symm
          · cases this
        simp [oi, jn0, this]
      | some r =>
        obtain ⟨k, hk, h1⟩ := fs_mem hf
        simp only [Nat.zero_add] at h1
        split at h1
        · cases h1
        · rename_i e
          cases h1
          have : ¬ a = b := fun e2 => by subst e2; exact e (gi_eq hk).symm
          simp [oi, jn0, this]
    · intro k hk
      unfold base_Ints_s0
      rw [lt_nat hk, cond_true, idx_nat hk, Option.bind_some, idx_gi (by omega), Option.bind_some, w64n k (by omega)]
      by_cases e : gi b k = a[k]
      · simp [e, fsS]
      · have e' : ¬ a[k] = gi b k := fun h => e h.symm
        simp [e, e', fsS]
    · unfold base_Ints_s0
      rw [lt_nat_no]; rfl
  · have : ¬ a = b := fun e => hl (by rw [e])
    simp [hl, this]

/-! ### Which plants have few parts -/
theorem Few_run (p : LevitatePlant) : Runs (law02_Few_spec p) fun b => b = true → p.Noise.length ≤ 5 ∧ p.Maps.length ≤ 6 ∧ ∀ m ∈ p.Maps, m.length ≤ 5 ∧ ∀ r ∈ m, r.length ≤ 5 := by
  unfold law02_Few_spec
  by_cases h1 : 5 < (p.Noise.length : Int)
  · rw [decide_eq_true h1]; exact Runs.some fun h => by cases h
  · by_cases h2 : 6 < (p.Maps.length : Int)
    · rw [decide_eq_true h2, decide_eq_false h1]; exact Runs.some fun h => by cases h
    · rw [decide_eq_false h1, decide_eq_false h2]
      simp only [Bool.or_self, cond_false]
      have hl : loop (law02_Few_s1 p) 0 = some (oi (fs (fun _ (m : List (List Int)) => if m.length ≤ 5 ∧ m.all (fun r => decide (r.length ≤ 5)) then none else some false) 0 p.Maps)) := by
        refine loop_fs p.Maps _ (fun k hk => ?_) ?_
        · unfold law02_Few_s1
          rw [lt_nat hk, cond_true, idx_nat hk, Option.bind_some]
          by_cases h3 : 5 < (p.Maps[k].length : Int)
          · have : ¬ p.Maps[k].length ≤ 5 := by omega
            simp [h3, this, fsS]
          · have h3' : p.Maps[k].length ≤ 5 := by omega
            rw [decide_eq_false h3, cond_false]
            have hin : loop (law02_Few_s0 p (k : Int)) 0 = some (oi (if p.Maps[k].all (fun r => decide (r.length ≤ 5)) then none else some (.inr (.inl false) : Int ⊕ (Bool ⊕ Unit)))) := by
              rw [loop_fs p.Maps[k] (fun _ r => if decide (r.length ≤ 5) then none else some (.inr (.inl false) : Int ⊕ (Bool ⊕ Unit)))]
              · have : ∀ (l : List (List Int)) t, fs (fun _ r => if decide (r.length ≤ 5) then none else some (.inr (.inl false) : Int ⊕ (Bool ⊕ Unit))) t l = if l.all (fun r => decide (r.length ≤ 5)) then none else some (.inr (.inl false)) := by
                  intro l
                  induction l with
                  | nil => intro t; rfl
                  | cons y ys ih =>
                    intro t
                    by_cases hy : y.length ≤ 5
                    · simp [fs, hy]; simpa using ih (t + 1)
                    · simp [fs, hy]
                rw [this]
              · intro i hi
                unfold law02_Few_s0
                rw [idx_nat hk, Option.bind_some, lt_nat hi, cond_true, Option.bind_some, idx_nat hi, Option.bind_some, w64n i (by omega)]
                by_cases h4 : 5 < (p.Maps[k][i].length : Int)
                · have : ¬ p.Maps[k][i].length ≤ 5 := by omega
                  simp [h4, this, fsS]
                · have : p.Maps[k][i].length ≤ 5 := by omega
                  simp [h4, this, fsS]
              · unfold law02_Few_s0
                rw [idx_nat hk, Option.bind_some, lt_nat_no]; rfl
            rw [hin, Option.bind_some, w64n k (by omega)]
            cases h5 : p.Maps[k].all (fun r => decide (r.length ≤ 5)) <;> simp [h3', fsS, oi, jn0]
        · unfold law02_Few_s1
          rw [lt_nat_no]; rfl
      rw [hl]
      cases hf : fs (fun _ (m : List (List Int)) => if m.length ≤ 5 ∧ m.all (fun r => decide (r.length ≤ 5)) then none else some false) 0 p.Maps with
      | some r =>
        obtain ⟨k, hk, h6⟩ := fs_mem hf
        split at h6
        · cases h6
        · cases h6; exact Runs.some fun h => by cases h
      | none =>
        refine Runs.some fun _ => ⟨by omega, by omega, fun m hm => ?_⟩
        rw [fs_none] at hf
        obtain ⟨k, hk, rfl⟩ := List.getElem_of_mem hm
        have := hf k hk
        split at this
        · rename_i h7
          exact ⟨h7.1, fun r hr => by simpa using List.all_eq_true.1 h7.2 r hr⟩
        · cases this
theorem sh_few {p : LevitatePlant} (h : p.Noise.length ≤ 5 ∧ p.Maps.length ≤ 6 ∧ ∀ m ∈ p.Maps, m.length ≤ 5 ∧ ∀ r ∈ m, r.length ≤ 5) : Sh p :=
  ⟨by omega, by omega, fun m hm => by have := (h.2.2 m hm).1; omega, fun m hm r hr => by have := (h.2.2 m hm).2 r hr; omega⟩
/-! ### The opposite order -/
/-! ### The example -/
def exP : LevitatePlant := ⟨10, [[[5, 0], [2, 4]]], [3, 1]⟩
def exF : List (List Int) := [[1, 0], [0, 1]]
theorem exP_right : Rp exP := ckP_right.1 (by decide)
theorem exF_right : Rf exF := frmE_right.1 (by decide)
theorem ex_box : levitate_LeastBox_spec exP [0, 0] = some ([6, 4], 0) := by
  obtain ⟨r, hr, h1⟩ := lLeastBox_ok exP_right (bxE_right.1 (by decide) : Bx exP [0, 0])
  rw [hr]; congr 1
  refine h1.eq (.inl ⟨rfl, rfl, by decide, by decide, (show ∀ m, m < 1 → ∀ i, i < 2 → needI exP m i [6, 4] ≤ gi [6, 4] i from by decide), ?_⟩)
  intro K hK hs k hk
  have a0 := hK 0 (by decide) 0 (by decide)
  have a1 := hK 0 (by decide) 1 (by decide)
  have s0 := hs 0 (by decide)
  have s1 := hs 1 (by decide)
  have e0 : needI exP 0 0 K = (0 + 5 * gi K 0 + 0 * gi K 1 + 10 - 1) / 10 + 3 := rfl
  have e1 : needI exP 0 1 K = (0 + 2 * gi K 0 + 4 * gi K 1 + 10 - 1) / 10 + 1 := rfl
  rw [e0] at a0
  rw [e1] at a1
  change (0 : Int) ≤ gi K 0 at s0
  change (0 : Int) ≤ gi K 1 at s1
  match k, hk with
  | 0, _ => show (6 : Int) ≤ gi K 0; omega
  | 1, _ => show (4 : Int) ≤ gi K 1; omega
theorem ex_kept (q : Int) : kptB q 20 ⟨1, 2⟩ = decide (234 ≤ q) := by
  unfold kptB
  have e1 : (2 - 1) * q - 2 * 20 = q - 40 := by omega
  have e2 : 4 * 1 * 2 * q * 20 = 160 * q := by omega
  have e3 : (q - 40) * (q - 40) = q * q - 80 * q + 1600 := by grind
  rw [e1, e2, e3]
  rw [Bool.eq_iff_iff]
  simp only [Bool.and_eq_true, decide_eq_true_eq]
  constructor
  · rintro ⟨h1, h2⟩
    apply Classical.byContradiction
    intro h3
    have h4 : 0 ≤ (q - 40) * (233 - q) := Int.mul_nonneg (by omega) (by omega)
    have h5 : (q - 40) * (233 - q) = 273 * q - q * q - 9320 := by grind
    omega
  · intro h
    have h4 : 0 ≤ (q - 234) * (q - 6) := Int.mul_nonneg (by omega) (by omega)
    have h5 : (q - 234) * (q - 6) = q * q - 240 * q + 1404 := by grind
    exact ⟨by omega, by omega⟩
theorem ex_level : levitate_LeastLevel_spec exP exF ⟨1, 2⟩ = some (234, 0) := by
  unfold levitate_LeastLevel_spec
  rw [proves_ok exP_right exF_right rfl]
  have e : pvV exP exF ⟨1, 2⟩ = (0, 0) := by decide
  rw [e]
  simp only [Option.bind_some, decide_true, Bool.not_true, cond_false]
  change Option.bind (levitate_plant_worst_spec ⟨exP⟩ exF) _ = _
  rw [worst_ok exP_right exF_right.sq exF_right.bd, Option.bind_some, show worstI exP exF = 20 by decide]
  obtain ⟨q, hq, h1, h2, h3, h4, h5⟩ := least61_run (worst := 20) (r := ⟨1, 2⟩) ⟨by decide, by decide⟩ (by decide)
  rw [hq, Option.bind_some]
  rw [ex_kept] at h3 h4
  have : q.1 = 234 := by
    simp only [decide_eq_true_eq, decide_eq_false_iff_not] at h3 h4
    omega
  rw [h5, this]; rfl
end Go.Gw

end
section
set_option maxRecDepth 8192
set_option linter.unusedSimpArgs false
set_option linter.unusedVariables false
namespace Go.Gw
open Go

/-! ### Division downwards -/
theorem neg_ceil {n b : Int} (hb : 1 ≤ b) : -((-n + b - 1) / b) = n / b := by
  have h1 := Int.mul_ediv_add_emod n b
  have h2 := Int.emod_nonneg n (show b ≠ 0 by omega)
  have h3 := Int.emod_lt_of_pos n (show 0 < b by omega)
  have : (-n + b - 1) / b = -(n / b) := by
    rw [show -n + b - 1 = (b - 1 - n % b) + b * (-(n / b)) by rw [Int.mul_neg]; omega, Int.add_mul_ediv_left _ _ (by omega), Int.ediv_eq_zero_of_lt (by omega) (by omega)]; omega
  omega
theorem div_bd {n b : Int} (hb : 1 ≤ b) {M : Int} (h : -M ≤ n ∧ n ≤ M) : -M ≤ n / b ∧ n / b ≤ M := by
  by_cases h0 : 0 ≤ n
  · have h1 : 0 ≤ n / b := Int.ediv_nonneg h0 (by omega)
    have h2 : n / b ≤ n := Int.ediv_le_self _ h0
    omega
  · have h1 : n / b < 0 := Int.ediv_neg_of_neg_of_pos (by omega) (by omega)
    have h2 := neg_ceil (n := n) hb
    have h3 : (-n + b - 1) / b ≤ -n := by
      apply Int.ediv_le_of_le_mul (by omega)
      have : 0 ≤ (-n - 1) * (b - 1) := Int.mul_nonneg (by omega) (by omega)
      have e : (-n - 1) * (b - 1) = -n * b + n - b + 1 := by grind
      omega
    omega
theorem lfloor_ok {n b : Int} (h : -4000000000000000000 ≤ n ∧ n ≤ 4000000000000000000) (h2 : 1 ≤ b) (h3 : b ≤ 4000000000000000000) : levitate_floor_spec n b = some (n / b) := by
  unfold levitate_floor_spec
  by_cases hn : n < 0
  · rw [decide_eq_true hn, cond_true, show w64 (0 - n) = -n by rw [w64_id (by omega)]; omega]
    unfold levitate_ceil_part_spec
    rw [show decide (-n < 0) = false by simp; omega, cond_false, w64_id (x := -n + b) (by omega), w64_id (by omega), quo_ok (by omega), Int.tdiv_eq_ediv_of_nonneg (by omega)]
    have e := neg_ceil (n := n) h2
    have h4 : 0 ≤ (-n + b - 1) / b := Int.ediv_nonneg (by omega) (by omega)
    have h5 : (-n + b - 1) / b ≤ -n + b - 1 := Int.ediv_le_self _ (by omega)
    simp only [Option.bind_some]
    rw [w64_id (x := (-n + b - 1) / b) (by omega), w64_id (by omega)]
    congr 1; omega
  · rw [decide_eq_false hn, cond_false, quo_ok (by omega), Int.tdiv_eq_ediv_of_nonneg (by omega), Option.bind_some]
    have := div_bd h2 h
    rw [w64_id (by omega)]

/-! ### Samples -/
def smE (p : LevitatePlant) (s : LevitateSample) : Int :=
  if 0 ≤ s.Map ∧ s.Map < p.Maps.length then
    (if s.Noise.length = p.Noise.length then
      (match fs (fun k x => if smallB (gi p.Noise k) x then none else some (2 : Int)) 0 s.Noise with | some e => e | none => 0) else 10) else 6
structure Sm (p : LevitatePlant) (s : LevitateSample) : Prop where
  m0 : 0 ≤ s.Map
  m1 : s.Map < p.Maps.length
  len : s.Noise.length = p.Noise.length
  nz : ∀ k, k < p.Noise.length → -gi p.Noise k ≤ gi s.Noise k ∧ gi s.Noise k ≤ gi p.Noise k
theorem fs_two {α : Type} {P : Nat → α → Bool} {l : List α} {k : Nat} {e : Int} (h : fs (fun k x => if P k x then none else some (2 : Int)) k l = some e) : e = 2 := by
  obtain ⟨i, hi, h1⟩ := fs_mem h
  split at h1
  · cases h1
  · cases h1; rfl
theorem smE_right {p : LevitatePlant} {s : LevitateSample} : smE p s = 0 ↔ Sm p s := by
  unfold smE
  constructor
  · intro h
    split at h
    · rename_i h1
      split at h
      · rename_i h2
        cases h3 : fs (fun k x => if smallB (gi p.Noise k) x then none else some (2 : Int)) 0 s.Noise with
        | some e => rw [h3] at h; have := fs_two h3; simp only at h; omega
        | none =>
          refine ⟨h1.1, h1.2, h2, fun k hk => ?_⟩
          have h4 := fs_none.1 h3 k (by omega)
          rw [Nat.zero_add, gi_eq (by omega)] at h4
          split at h4
          · rename_i h5; exact (small_iff _ _).1 h5
          · cases h4
      · omega
    · omega
  · intro h
    rw [if_pos ⟨h.m0, h.m1⟩, if_pos h.len]
    have : fs (fun k x => if smallB (gi p.Noise k) x then none else some (2 : Int)) 0 s.Noise = none := fs_none.2 fun i hi => by
      have := h.nz i (by have := h.len; omega)
      rw [Nat.zero_add, gi_eq hi, if_pos ((small_iff _ _).2 this)]
    rw [this]
theorem smE_loop {p : LevitatePlant} {s : LevitateSample} (hl : s.Noise.length = p.Noise.length) : (jn0 (oi (fs (fun k x => if smallB (gi p.Noise k) x then none else some (2 : Int)) 0 s.Noise)) fun (_ : Unit) => some 0) = some (match fs (fun k x => if smallB (gi p.Noise k) x then none else some (2 : Int)) 0 s.Noise with | some e => e | none => 0) := by
  cases fs (fun k x => if smallB (gi p.Noise k) x then none else some (2 : Int)) 0 s.Noise <;> rfl
theorem lsampleErr_ok {p : LevitatePlant} (h : Rp p) {s : LevitateSample} (hs : s.Noise.length < 1073741824) : levitate_plant_sampleErr_spec ⟨p⟩ s = some (smE p s) := by
  unfold levitate_plant_sampleErr_spec
  have hm1 := h.m1
  have hm4 := h.m4
  rw [w64_id (by dsimp only; omega)]
  simp only [lwithin_ok, Option.bind_some, lunless_ok, first2, len_dec]
  unfold smE
  by_cases h1 : 0 ≤ s.Map ∧ s.Map < p.Maps.length
  · have e1 : (decide (0 ≤ s.Map) && decide (s.Map ≤ (p.Maps.length : Int) - 1)) = true := by simp; omega
    rw [if_pos h1, e1]
    by_cases h2 : s.Noise.length = p.Noise.length
    · rw [if_pos h2, decide_eq_true h2]
      simp only [cond_true, decide_true, Bool.not_true, cond_false, if_pos]
      rw [loop_fs s.Noise (fun k x => if smallB (gi p.Noise k) x then none else some 2), Option.bind_some, smE_loop h2]
      · intro k hk
        unfold levitate_plant_sampleErr_s0
        rw [lt_nat hk, idx_nat hk, w64n k (by omega)]
        dsimp only
        have hb := h.noise_b (i := k) (by omega)
        rw [cond_true, Option.bind_some, idx_gi (by omega), Option.bind_some, lsmall_ok _ _ (by omega), Option.bind_some]
        cases smallB (gi p.Noise k) s.Noise[k] <;> rfl
      · unfold levitate_plant_sampleErr_s0
        rw [lt_nat_no]; rfl
    · rw [if_neg h2, decide_eq_false h2]; rfl
  · have e1 : (decide (0 ≤ s.Map) && decide (s.Map ≤ (p.Maps.length : Int) - 1)) = false := by simp; omega
    rw [if_neg h1, e1]; rfl
def smsF (p : LevitatePlant) (l : List LevitateSample) : Option Int := fs (fun _ s => if smE p s = 0 then none else some (smE p s)) 0 l
def smsE (p : LevitatePlant) (l : List LevitateSample) : Int := match smsF p l with | some e => e | none => 0
theorem smsE_right {p : LevitatePlant} {l : List LevitateSample} : smsE p l = 0 ↔ ∀ s ∈ l, Sm p s := by
  unfold smsE
  constructor
  · intro h s hs
    cases h1 : smsF p l with
    | some e =>
      rw [h1] at h
      obtain ⟨i, hi, h2⟩ := fs_mem h1
      split at h2
      · cases h2
      · cases h2; exact absurd h (by assumption)
    | none =>
      obtain ⟨i, hi, rfl⟩ := List.mem_iff_getElem.1 hs
      have h2 := fs_none.1 h1 i hi
      split at h2
      · exact smE_right.1 (by assumption)
      · cases h2
  · intro h
    have : smsF p l = none := fs_none.2 fun i hi => by rw [if_pos (smE_right.2 (h _ (List.getElem_mem hi)))]
    rw [this]
def opR (p : LevitatePlant) (x : List Int) (l : List LevitateSample) : Int :=
  if (ckP p).2 ≠ 0 then (ckP p).2 else if stE p x ≠ 0 then stE p x else if 60 < l.length then 8 else smsE p l
theorem lopenRun_ok {p : LevitatePlant} (h : Sh p) {x : List Int} (hx : x.length < 1073741824) {l : List LevitateSample} (hl : l.length < 1073741824) (hs : ∀ s ∈ l, s.Noise.length < 1073741824) :
    levitate_openRun_spec p x l = some (⟨p⟩, opR p x l) := by
  unfold levitate_openRun_spec
  rw [lopen_ok p h, Option.bind_some]
  dsimp only
  unfold opR
  by_cases h0 : (ckP p).2 = 0
  · have hp := ckP_right.1 h0
    rw [if_neg (by simp [h0]), decide_eq_true h0]
    simp only [Bool.not_true, cond_false, lunless_ok, Option.bind_some, first2]
    change Option.bind (levitate_plant_stateErr_spec ⟨p⟩ x) _ = _
    rw [lstateErr_ok p x hx, Option.bind_some]
    by_cases h1 : stE p x = 0
    · by_cases h2 : 60 < l.length
      · have e : decide ((l.length : Int) ≤ 60) = false := decide_eq_false (by omega)
        simp [h1, h2, e]
      · have e : decide ((l.length : Int) ≤ 60) = true := decide_eq_true (by omega)
        simp only [e, h1, h2, if_true, if_false, cond_true, decide_true, Bool.not_true, cond_false, ne_eq, not_true_eq_false]
        rw [loop_fs l (fun _ s => if smE p s = 0 then none else some (⟨p⟩, smE p s)), Option.bind_some]
        · have e : fs (fun (_ : Nat) s => if smE p s = 0 then none else some ((⟨p⟩ : levitate_plant), smE p s)) 0 l = (smsF p l).map fun e => (⟨p⟩, e) := by
            unfold smsF
            rw [← map_fs]
            exact fs_congr fun i hi => by split <;> rfl
          rw [e]
          unfold smsE
          cases smsF p l <;> rfl
        · intro k hk
          unfold levitate_openRun_s0
          rw [lt_nat hk, idx_nat hk, w64n k (by omega), cond_true, Option.bind_some]
          change Option.bind (levitate_plant_sampleErr_spec ⟨p⟩ l[k]) _ = _
          rw [lsampleErr_ok hp (hs _ (List.getElem_mem hk)), Option.bind_some]
          by_cases h2 : smE p l[k] = 0
          · simp [h2, fsS]
          · simp only [h2, decide_false, Bool.not_false, cond_true, if_false, fsS]
        · unfold levitate_openRun_s0
          rw [lt_nat_no]; rfl
    · simp [h1]
  · rw [if_pos h0, decide_eq_false h0]; rfl

/-! ### Steps -/
def dotP (p : LevitatePlant) (m i : Nat) (x : List Int) : Int := sumN (fun k => ge p m i k * gi x k) p.Noise.length
def stepI (p : LevitatePlant) (x : List Int) (s : LevitateSample) : List Int := tab p.Noise.length fun i => dotP p s.Map.toNat i x / p.Den + gi s.Noise i
def rnV (p : LevitatePlant) : List Int → List LevitateSample → Option (List (List Int))
  | _, [] => some []
  | x, s :: l => if (stepI p x s).all (smallB 100000) then (rnV p (stepI p x s) l).map (stepI p x s :: ·) else none
def rnR : Option (List (List Int)) → List (List Int) × Int
  | some ys => (ys, 0)
  | none => ([], 24)
structure Stt (p : LevitatePlant) (x : List Int) : Prop where
  len : x.length = p.Noise.length
  bd : ∀ k, k < p.Noise.length → -100000 ≤ gi x k ∧ gi x k ≤ 100000
theorem all_small {x : List Int} {n : Nat} (hl : x.length = n) {M : Int} : x.all (smallB M) = true ↔ ∀ k, k < n → -M ≤ gi x k ∧ gi x k ≤ M := by
  subst hl
  rw [List.all_eq_true]
  constructor
  · intro h k hk; exact (small_iff _ _).1 (h _ (gi_mem hk))
  · intro h y hy
    obtain ⟨k, hk, rfl⟩ := mem_gi hy
    exact (small_iff _ _).2 (h k hk)
theorem stE_right {p : LevitatePlant} {x : List Int} : stE p x = 0 ↔ Stt p x := by
  unfold stE
  constructor
  · intro h
    by_cases h1 : x.length = p.Noise.length
    · refine ⟨h1, ?_⟩
      cases h2 : x.all (smallB 100000) with
      | true => exact (all_small h1).1 h2
      | false => simp [h1, h2] at h
    · simp [h1] at h
  · intro h
    simp [h.len, (all_small h.len).2 h.bd]
theorem dotP_b {p : LevitatePlant} (h : Rp p) {m i : Nat} (hm : m < p.Maps.length) (hi : i < p.Noise.length) {x : List Int} (hx : ∀ k, k < p.Noise.length → -100000 ≤ gi x k ∧ gi x k ≤ 100000) : -300000000 ≤ dotP p m i x ∧ dotP p m i x ≤ 300000000 :=
  sumN_abs3 h.n3 (by decide) fun k hk => abs_mul (h.ge_b hm hi hk) (hx k hk)
theorem stepI_len (p : LevitatePlant) (x : List Int) (s : LevitateSample) : (stepI p x s).length = p.Noise.length := tab_len _ _
theorem stepI_stt {p : LevitatePlant} {x : List Int} {s : LevitateSample} : Stt p (stepI p x s) ↔ (stepI p x s).all (smallB 100000) = true :=
  ⟨fun h => (all_small h.len).2 h.bd, fun h => ⟨stepI_len _ _ _, (all_small (stepI_len _ _ _)).1 h⟩⟩
theorem step_ok {p : LevitatePlant} (h : Rp p) {x : List Int} (hx : Stt p x) {s : LevitateSample} (hs : Sm p s) : loop (levitate_plant_run_s0 s (gm p s.Map.toNat) ⟨p⟩ x) ([], 0) = some (stepI p x s) := by
  have hm : s.Map.toNat < p.Maps.length := by have := hs.m0; have := hs.m1; omega
  have hrl : (gm p s.Map.toNat).length = p.Noise.length := h.sq _ (gm_mem hm)
  have hn := h.n3
  refine loop_list p.Noise.length _ ?_ ?_
  · intro i hi acc hacc
    unfold levitate_plant_run_s0
    dsimp only
    have hd := h.den
    have hb := dotP_b h hm hi hx.bd
    have hg : gi (gm p s.Map.toNat)[i]! 0 = gi (gm p s.Map.toNat)[i]! 0 := rfl
    rw [lt_nat (by omega), cond_true, idx_gr (by omega), Option.bind_some, idx_gi (by have := hs.len; omega), Option.bind_some, dot_ok (by rw [h.row_len hm hi, hx.len]; exact Nat.le_refl _) (by rw [h.row_len hm hi]; omega), Option.bind_some, h.row_len hm hi]
    change Option.bind (levitate_floor_spec (w64 (dotP p s.Map.toNat i x)) p.Den) _ = _
    rw [w64_id (by omega), lfloor_ok (by omega) hd.1 (by omega), Option.bind_some]
    have h1 := div_bd hd.1 hb
    have h2 := hs.nz i hi
    have h3 := h.noise_b hi
    rw [w64_id (by omega), app_ok (by simp; omega), Option.bind_some, w64n i (by omega)]
  · intro acc
    unfold levitate_plant_run_s0
    dsimp only
    rw [hrl, lt_nat_no]; rfl
theorem run_ok {p : LevitatePlant} (h : Rp p) {l : List LevitateSample} (hl : l.length < 1000) (hs : ∀ s ∈ l, Sm p s) {x : List Int} (hx : Stt p x) : levitate_plant_run_spec ⟨p⟩ x l = some (rnR (rnV p x l)) := by
  unfold levitate_plant_run_spec
  have key : ∀ (r l0 : List LevitateSample) (x : List Int) (acc : List (List Int)), l = l0 ++ r → acc.length = l0.length → Stt p x →
      loop (levitate_plant_run_s1 l ⟨p⟩) ((l0.length : Int), acc, x) = some (match rnV p x r with | some ys => .inr (acc ++ ys) | none => .inl ([], 24)) := by
    intro r
    induction r with
    | nil =>
      intro l0 x acc he ha hx
      refine loop_inr ?_
      unfold levitate_plant_run_s1
      dsimp only
      rw [he, List.append_nil, lt_nat_no]
      simp [rnV]
    | cons s r ih =>
      intro l0 x acc he ha hx
      have hlt : l0.length < l.length := by rw [he]; simp
      have hel : l[l0.length]'hlt = s := by simp [he]
      have hsm := hs s (by rw [he]; simp)
      have hm : s.Map.toNat < p.Maps.length := by have := hsm.m0; have := hsm.m1; omega
      have em : s.Map = (s.Map.toNat : Int) := by have := hsm.m0; omega
      have hstep := step_ok h hx hsm
      have hsl := stepI_len p x s
      have hn := h.n3
      have ea : levitate_allSmall_spec 100000 = some 100000 := rfl
      have st : levitate_plant_run_s1 l ⟨p⟩ ((l0.length : Int), acc, x) = if (stepI p x s).all (smallB 100000) then some (.inl (((l0 ++ [s]).length : Int), acc ++ [stepI p x s], stepI p x s)) else some (.inr (.inl ([], 24))) := by
        unfold levitate_plant_run_s1
        dsimp only
        rw [lt_nat hlt, cond_true, idx_nat hlt, Option.bind_some, hel]
        have ei : idx p.Maps s.Map = some (gm p s.Map.toNat) := by rw [em]; exact idx_gm hm
        rw [ei, Option.bind_some, hstep, Option.bind_some, ea, Option.bind_some, allSmall_ok _ 100000 (by decide) (by omega), Option.bind_some]
        cases hb : (stepI p x s).all (smallB 100000) with
        | false => rfl
        | true =>
          have hal : acc.length < 1000 := by omega
          simp only [Bool.not_true, cond_false, Option.bind_some, if_true]
          rw [app_ok (by simp; omega), Option.bind_some, w64n _ (by omega), allSmall_ok _ 100000 (by decide) (by omega), Option.bind_some, hb]
          simp
      cases hb : (stepI p x s).all (smallB 100000) with
      | false =>
        rw [hb] at st
        rw [loop_inr st, rnV, if_neg (by simp [hb])]
      | true =>
        rw [hb] at st
        rw [loop_inl st, ih (l0 ++ [s]) _ _ (by rw [he]; simp) (by simp [ha]) (stepI_stt.2 hb), rnV, if_pos hb]
        cases rnV p (stepI p x s) r <;> simp
  have := key l [] x [] rfl rfl hx
  change loop (levitate_plant_run_s1 l ⟨p⟩) (0, [], x) = _ at this
  rw [this]
  cases rnV p x l <;> rfl
def runR (p : LevitatePlant) (x : List Int) (l : List LevitateSample) : List (List Int) × Int := if opR p x l = 0 then rnR (rnV p x l) else ([], opR p x l)
theorem RunOf_ok {p : LevitatePlant} (h : Sh p) {x : List Int} (hx : x.length < 1073741824) {l : List LevitateSample} (hl : l.length < 1073741824) (hs : ∀ s ∈ l, s.Noise.length < 1073741824) : levitate_RunOf_spec p x l = some (runR p x l) := by
  unfold levitate_RunOf_spec runR
  rw [lopenRun_ok h hx hl hs, Option.bind_some]
  by_cases h0 : opR p x l = 0
  · rw [if_pos h0, decide_eq_true h0]
    unfold opR at h0
    split at h0
    · exact absurd h0 (by assumption)
    · rename_i h1
      split at h0
      · exact absurd h0 (by assumption)
      · rename_i h2
        split at h0
        · omega
        · rename_i h3
          have hp := ckP_right.1 (Classical.not_not.1 h1)
          simp only [Bool.not_true, cond_false]
          change Option.bind (levitate_plant_run_spec ⟨p⟩ x l) _ = _
          rw [run_ok hp (by omega) (smsE_right.1 h0) (stE_right.1 (Classical.not_not.1 h2))]
          rfl
  · rw [if_neg h0, decide_eq_false h0]; rfl
/-! ### The examples -/
end Go.Gw

end
section
set_option maxRecDepth 8192
set_option linter.unusedSimpArgs false
set_option linter.unusedVariables false
namespace Go.Gw
open Go

theorem levitated_ok : guidewaytop_levitated_spec = some true := by
  unfold guidewaytop_levitated_spec law02_Plant_spec law02_Form_spec
  simp only [Option.bind_some]
  change Option.bind (levitate_LeastBox_spec exP [0, 0]) _ = _
  rw [ex_box, Option.bind_some]
  change Option.bind (levitate_LeastLevel_spec exP exF ⟨1, 2⟩) _ = _
  rw [ex_level]
  simp only [Option.bind_some, decide_true, cond_true, Ints_ok [6, 4] [6, 4] (by decide)]
  rfl
end Go.Gw

end
section
set_option maxRecDepth 8192
set_option linter.unusedSimpArgs false
set_option linter.unusedVariables false
namespace Go.Gw
open Go

theorem rPlantErr_ok (p : LevitatePlant) (h : Sh p) : ref02_PlantErr_spec p = some (ckP p).2 := by
  unfold ref02_PlantErr_spec; rw [rCheckPlant_ok p h]; rfl
theorem rStateErr_ok (p : LevitatePlant) (x : List Int) (hx : x.length < 1073741824) : ref02_StateErr_spec p x = some (stE p x) := by
  unfold ref02_StateErr_spec
  rw [loop_fs x (fun _ n => if smallB 100000 n then none else some 2)]
  · have : ∀ (l : List Int) t, fs (fun _ n => if smallB 100000 n then none else some (2 : Int)) t l = if l.all (smallB 100000) then none else some 2 := by
      intro l
      induction l with
      | nil => intro t; rfl
      | cons y ys ih =>
        intro t
        cases hy : smallB 100000 y with
        | true => simp [fs, hy, ih]
        | false => simp [fs, hy]
    simp only [this, len_dec, Option.bind_some]
    unfold stE
    by_cases h : x.length = p.Noise.length <;> cases h2 : x.all (smallB 100000) <;> simp [h, oi, jn0]
  · intro k hk
    unfold ref02_StateErr_s0
    rw [lt_nat hk, idx_nat hk, w64n k (by omega)]
    simp only [cond_true, Option.bind_some, bwithin_ok]
    show (bif !smallB 100000 x[k] then _ else _) = _
    cases smallB 100000 x[k] <;> rfl
  · unfold ref02_StateErr_s0
    rw [lt_nat_no]; rfl
theorem rBoxErr_ok (p : LevitatePlant) (x : List Int) (hx : x.length < 1073741824) : ref02_BoxErr_spec p x = some (bxE p x) := by
  unfold ref02_BoxErr_spec
  rw [rStateErr_ok p x hx, loop_fs x (fun _ n => if neg0 n then some 2 else none)]
  · have : ∀ (l : List Int) t, fs (fun _ n => if neg0 n then some (2 : Int) else none) t l = if l.any neg0 then some 2 else none := by
      intro l
      induction l with
      | nil => intro t; rfl
      | cons y ys ih =>
        intro t
        cases hy : neg0 y with
        | true => simp [fs, hy]
        | false => simp [fs, hy, ih]
    simp only [this, Option.bind_some]
    unfold bxE
    by_cases h : stE p x = 0 <;> cases h2 : x.any neg0 <;> simp [h, oi, jn0]
  · intro k hk
    unfold ref02_BoxErr_s0
    rw [lt_nat hk, idx_nat hk, w64n k (by omega)]
    simp only [cond_true, Option.bind_some]
    show (bif neg0 x[k] then _ else _) = _
    cases neg0 x[k] <;> rfl
  · unfold ref02_BoxErr_s0
    rw [lt_nat_no]; rfl
theorem rSampleErr_ok {p : LevitatePlant} (h : Rp p) {s : LevitateSample} (hs : s.Noise.length < 1073741824) : ref02_SampleErr_spec p s = some (smE p s) := by
  unfold ref02_SampleErr_spec
  have hm1 := h.m1
  have hm4 := h.m4
  rw [w64_id (by omega)]
  simp only [bwithin_ok, Option.bind_some, len_dec]
  unfold smE
  by_cases h1 : 0 ≤ s.Map ∧ s.Map < p.Maps.length
  · have e1 : (decide (0 ≤ s.Map) && decide (s.Map ≤ (p.Maps.length : Int) - 1)) = true := by simp; omega
    rw [if_pos h1, e1]
    by_cases h2 : s.Noise.length = p.Noise.length
    · rw [if_pos h2, decide_eq_true h2]
      simp only [Bool.not_true, cond_false]
      rw [loop_fs s.Noise (fun k x => if smallB (gi p.Noise k) x then none else some 2), Option.bind_some, smE_loop h2]
      · intro k hk
        unfold ref02_SampleErr_s0
        rw [lt_nat hk, idx_nat hk, w64n k (by omega)]
        have hb := h.noise_b (i := k) (by omega)
        rw [cond_true, Option.bind_some, idx_gi (by omega), Option.bind_some, Option.bind_some, show w64 (0 - gi p.Noise k) = -gi p.Noise k by rw [w64_id (by omega)]; omega, bwithin_ok, Option.bind_some]
        show (bif !smallB (gi p.Noise k) s.Noise[k] then _ else _) = _
        cases smallB (gi p.Noise k) s.Noise[k] <;> rfl
      · unfold ref02_SampleErr_s0
        rw [lt_nat_no]; rfl
    · rw [if_neg h2, decide_eq_false h2]; rfl
  · have e1 : (decide (0 ≤ s.Map) && decide (s.Map ≤ (p.Maps.length : Int) - 1)) = false := by simp; omega
    rw [if_neg h1, e1]; rfl
end Go.Gw

end
section
set_option maxRecDepth 8192
set_option linter.unusedSimpArgs false
set_option linter.unusedVariables false
namespace Go.Gw
open Go

theorem CopySample_ok (s : LevitateSample) (h : s.Noise.length ≤ 1073741824) : ref02_CopySample_spec s = some s := by
  unfold ref02_CopySample_spec
  rw [CopyInts_ok _ h]; rfl
end Go.Gw

end
section
set_option maxRecDepth 8192
set_option linter.unusedSimpArgs false
set_option linter.unusedVariables false
namespace Go.Gw
open Go

theorem Bx.rng {p : LevitatePlant} {x : List Int} (h : Bx p x) : ∀ k, k < p.Noise.length → 0 ≤ gi x k ∧ gi x k ≤ 100000 := fun k hk => ⟨h.ge k (by rw [h.len]; exact hk), h.le k (by rw [h.len]; exact hk)⟩
def cbV (p : LevitatePlant) (x : List Int) : LevitateMark × Int := if opB p x = 0 then ((brkV (brk p x)).1, if (brkV (brk p x)).2 then 24 else 0) else (⟨0, 0⟩, opB p x)
theorem opB_right {p : LevitatePlant} {x : List Int} (h : opB p x = 0) : Rp p ∧ Bx p x := by
  unfold opB at h
  split at h
  · exact absurd h (by assumption)
  · rename_i h1; exact ⟨ckP_right.1 (Classical.not_not.1 h1), bxE_right.1 h⟩
theorem opB_zero {p : LevitatePlant} {x : List Int} (h : Rp p) (hx : Bx p x) : opB p x = 0 := by unfold opB; rw [h.ck, bxE_right.2 hx]; simp
theorem CheckBox_ok {p : LevitatePlant} (h : Sh p) {x : List Int} (hx : x.length < 1073741824) : levitate_CheckBox_spec p x = some (cbV p x) := by
  unfold levitate_CheckBox_spec cbV
  rw [lopenBox_ok p x h hx, Option.bind_some]
  by_cases h0 : opB p x = 0
  · obtain ⟨hp, hb⟩ := opB_right h0
    rw [if_pos h0, decide_eq_true h0]
    simp only [Bool.not_true, cond_false]
    change Option.bind (levitate_plant_broken_spec ⟨p⟩ x) _ = _
    rw [broken_ok hp hb.len hb.rng, Option.bind_some, lunless_ok, Option.bind_some]
    cases (brkV (brk p x)).2 <;> rfl
  · rw [if_neg h0, decide_eq_false h0]; rfl
/-! ### What lies in a box -/
end Go.Gw

end
section
set_option maxRecDepth 8192
set_option linter.unusedSimpArgs false
set_option linter.unusedVariables false
namespace Go.Gw
open Go

def bpr (A D n : Int) : Bool := decide (3138550867693340381917894711603833208051177722232017256448 ≤ (A - n * n * D) % 6277101735386680763835789423207666416102355444464034512896)
theorem bound1_ok {n A D : Int} (h : -9223372036854775808 ≤ n ∧ n ≤ 9223372036854775807) : levitate_bound_1_spec n (wOf A) (wOf D) = some (bpr A D n) := by
  unfold levitate_bound_1_spec
  simp only [wideOf_ok h, Option.bind_some, times_ok, less_ok, below_ok]; rfl
theorem least88_run (A D : Int) : Runs (levitate_least_88_spec 274877906944 (wOf A) (wOf D)) fun r => 0 ≤ r.1 ∧ r.1 ≤ 274877906945 ∧ (r.1 ≤ 274877906944 → bpr A D r.1 = true) ∧ (0 < r.1 → bpr A D (r.1 - 1) = false) := by
  unfold levitate_least_88_spec
  refine Runs.callR (least_run (bpr A D) 274877906944 (by decide) (by decide) (fun lo hi h1 h2 h3 hd => ?_) (fun lo hi h1 h2 h3 hd => ?_)) fun hi hh => Runs.some hh
  · unfold levitate_least_88_s0
    dsimp only
    have hm := mid_ok h1 h2 h3 (by decide)
    rw [hm.1, hm.2, decide_eq_true hd, cond_true, bound1_ok (by omega), Option.bind_some]
    cases bpr A D (lo + (hi - lo) / 2) <;> rfl
  · unfold levitate_least_88_s0
    dsimp only
    have hm := mid_ok h1 h2 h3 (by decide)
    rw [hm.1, decide_eq_false hd]; rfl
def butL (n i : Nat) : List Nat := (List.range i) ++ (List.range n).drop (i + 1)
noncomputable def bndV (A D : Int) : Int := w64 (((levitate_least_88_spec 274877906944 (wOf A) (wOf D)).getD default).1 - 1)
theorem bound_ok {f : List (List Int)} (hf : Rf f) {i : Nat} (hi : i < f.length) {level : Int} (hl : 0 ≤ level ∧ level ≤ 100000000000000) : levitate_bound_spec f (i : Int) level = some (bndV (level * detL f (butL f.length i)) (detL f (List.range f.length))) := by
  unfold levitate_bound_spec
  have h3 := hf.n3
  have hrange : ∀ x ∈ List.range f.length, x < f.length := fun x hx => List.mem_range.1 hx
  have hbut : ∀ x ∈ butL f.length i, x < f.length := fun x hx => by
    rcases List.mem_append.1 hx with h | h
    · have := List.mem_range.1 h; omega
    · exact hrange x (List.mem_of_mem_drop h)
  rw [wd_ok hf.sq h3 (hf.bd.mono (by decide)), Option.bind_some, numbers_ok _ (by omega), Option.bind_some, minor_ok hf.sq hrange (by simp; omega), Option.bind_some, wideOf_ok (by omega), Option.bind_some, w64n i (by omega)]
  have hd : delE (nums (List.range f.length)) (i : Int) ((i + 1 : Nat) : Int) = some (nums (butL f.length i)) := by
    unfold delE
    rw [if_pos ⟨by omega, by omega, by rw [nums_len, List.length_range]; omega, by rw [nums_len, List.length_range]; omega, by rw [nums_len, List.length_range]; omega⟩]
    congr 1
    simp only [Int.toNat_natCast]
    unfold butL nums
    rw [List.map_append, ← List.map_take, ← List.map_drop, List.take_range, Nat.min_eq_left (by omega)]
  rw [hd, Option.bind_some, minor_ok hf.sq hbut (by unfold butL; simp; omega), Option.bind_some, times_ok, Option.bind_some]
  obtain ⟨q, hq, _⟩ := least88_run (level * detL f (butL f.length i)) (detL f (List.range f.length))
  unfold bndV
  rw [hq]; rfl

noncomputable def cpV (p : LevitatePlant) (x : LevitateProof) : List Int × Int :=
  if (pvV p x.Form x.Rate).2 = 0 then
    (if 0 ≤ x.Level ∧ x.Level ≤ 100000000000000 then
      (if kptB x.Level (worstI p x.Form) x.Rate then ((List.range x.Form.length).map fun i => bndV (x.Level * detL x.Form (butL x.Form.length i)) (detL x.Form (List.range x.Form.length)), 0) else ([], 20))
    else ([], 2))
  else ([], (pvV p x.Form x.Rate).2)
theorem CheckProof_ok {p : LevitatePlant} (h : Rp p) {x : LevitateProof} (hf : Rf x.Form) (hn : x.Form.length = p.Noise.length) : levitate_CheckProof_spec p x = some (cpV p x) := by
  unfold levitate_CheckProof_spec
  have h3 := h.n3
  have hsq : Sq p.Noise.length x.Form := by rw [← hn]; exact hf.sq
  have hbd : Bd p.Noise.length x.Form 10000 := by rw [← hn]; exact hf.bd
  rw [proves_ok h hf hn]
  simp only [Option.bind_some, lwithin_ok, lunless_ok, first2]
  unfold cpV
  have e5 : (decide (0 ≤ x.Level) && decide (x.Level ≤ 100000000000000)) = decide (0 ≤ x.Level ∧ x.Level ≤ 100000000000000) := by rw [Bool.eq_iff_iff]; simp
  rw [e5]
  by_cases h1 : (pvV p x.Form x.Rate).2 = 0
  · by_cases h2 : 0 ≤ x.Level ∧ x.Level ≤ 100000000000000
    · simp only [h1, h2, if_true, decide_true, cond_true, Bool.not_true, cond_false, and_self]
      change Option.bind (levitate_plant_worst_spec ⟨p⟩ x.Form) _ = _
      rw [worst_ok h hsq hbd, Option.bind_some, kept_ok (pvV_rate h1) h2 (worst_b h hbd), Option.bind_some]
      cases kptB x.Level (worstI p x.Form) x.Rate with
      | false => simp
      | true =>
        have hl : loop (levitate_CheckProof_s0 x) (([] : List Int), 0) = some ((List.range x.Form.length).map fun i => bndV (x.Level * detL x.Form (butL x.Form.length i)) (detL x.Form (List.range x.Form.length))) := by
          refine loop_list x.Form.length _ (fun i hi acc hacc => ?_) (fun acc => ?_)
          · unfold levitate_CheckProof_s0
            dsimp only
            rw [lt_nat hi, cond_true, bound_ok hf hi h2, Option.bind_some, app_ok (by simp [hacc]; omega), Option.bind_some, w64n i (by omega)]
          · unfold levitate_CheckProof_s0
            dsimp only
            rw [lt_nat_no]; rfl
        rw [hl]; rfl
    · simp [h1, h2]
  · simp [h1]
end Go.Gw

end
section
set_option maxRecDepth 8192
set_option linter.unusedSimpArgs false
set_option linter.unusedVariables false
namespace Go.Gw
open Go

theorem sqn (x : Int) : 0 ≤ x * x := by
  rcases Int.le_total 0 x with h | h
  · exact Int.mul_nonneg h h
  · have := Int.mul_nonneg (show 0 ≤ -x by omega) (show 0 ≤ -x by omega); have e : -x * -x = x * x := by grind
    omega
theorem nn_of_mul {a b : Int} (ha : 0 < a) (h : 0 ≤ a * b) : 0 ≤ b := by
  rcases Int.lt_or_le b 0 with hb | hb
  · have := Int.mul_pos ha (show 0 < -b by omega)
    have e : a * -b = -(a * b) := by grind
    omega
  · exact hb
theorem sq_zero {x : Int} (h : x * x ≤ 0) : x = 0 := by
  rcases Int.lt_trichotomy x 0 with h1 | h1 | h1
  · have := Int.mul_pos (show 0 < -x by omega) (show 0 < -x by omega); have e : -x * -x = x * x := by grind
    omega
  · exact h1
  · have := Int.mul_pos h1 h1; omega
theorem psd2 {a b c : Int} (ha : 0 ≤ a) (hc : 0 ≤ c) (hd : 0 ≤ a * c - b * b) (x y : Int) : 0 ≤ a * (x * x) + 2 * (b * (x * y)) + c * (y * y) := by
  rcases Int.lt_or_le 0 a with h | h
  · refine nn_of_mul h ?_
    have e : a * (a * (x * x) + 2 * (b * (x * y)) + c * (y * y)) = (a * x + b * y) * (a * x + b * y) + (a * c - b * b) * (y * y) := by grind
    rw [e]
    have := sqn (a * x + b * y); have := Int.mul_nonneg hd (sqn y); omega
  · obtain rfl : a = 0 := by omega
    obtain rfl := sq_zero (x := b) (by omega)
    have := Int.mul_nonneg hc (sqn y); simpa using this
theorem psd3 {a b c d e f : Int} (ha : 0 ≤ a) (hd : 0 ≤ d) (hf : 0 ≤ f) (h1 : 0 ≤ a * d - b * b) (h2 : 0 ≤ a * f - c * c) (h3 : 0 ≤ d * f - e * e)
    (hD : 0 ≤ a * (d * f - e * e) + b * (e * c - b * f) + c * (b * e - d * c)) (x y z : Int) :
    0 ≤ a * (x * x) + d * (y * y) + f * (z * z) + 2 * (b * (x * y)) + 2 * (c * (x * z)) + 2 * (e * (y * z)) := by
  rcases Int.lt_or_le 0 a with h | h
  · refine nn_of_mul h ?_
    have e1 : a * (a * (x * x) + d * (y * y) + f * (z * z) + 2 * (b * (x * y)) + 2 * (c * (x * z)) + 2 * (e * (y * z))) = (a * x + b * y + c * z) * (a * x + b * y + c * z) + ((a * d - b * b) * (y * y) + 2 * ((a * e - b * c) * (y * z)) + (a * f - c * c) * (z * z)) := by grind
    rw [e1]
    have e2 : (a * d - b * b) * (a * f - c * c) - (a * e - b * c) * (a * e - b * c) = a * (a * (d * f - e * e) + b * (e * c - b * f) + c * (b * e - d * c)) := by grind
    have := psd2 h1 h2 (by rw [e2]; exact Int.mul_nonneg ha hD) y z
    have := sqn (a * x + b * y + c * z); omega
  · obtain rfl : a = 0 := by omega
    obtain rfl := sq_zero (x := b) (by omega)
    obtain rfl := sq_zero (x := c) (by omega)
    have := psd2 hd hf h3 y z
    simp; omega
theorem cauchy {U E B : Int} (h : ∀ s t : Int, 0 ≤ s * s * U + 2 * (s * t * B) + t * t * E) : B * B ≤ U * E := by
  have hE : 0 ≤ E := by have := h 0 1; simpa using this
  have hU : 0 ≤ U := by have := h 1 0; simpa using this
  rcases Int.lt_or_le 0 E with h1 | h1
  · have h2 := h E (-B)
    have e : E * E * U + 2 * (E * -B * B) + -B * -B * E = E * (U * E - B * B) := by grind
    rw [e] at h2
    have := nn_of_mul h1 h2; omega
  · obtain rfl : E = 0 := by omega
    have h2 := h 1 (-(B * (U + 1)))
    have e : 1 * 1 * U + 2 * (1 * -(B * (U + 1)) * B) + -(B * (U + 1)) * -(B * (U + 1)) * 0 = U - 2 * (B * B * (U + 1)) := by grind
    rw [e] at h2
    rcases Int.lt_or_le 0 (B * B) with h3 | h3
    · have h4 : 1 * (U + 1) ≤ B * B * (U + 1) := Int.mul_le_mul_of_nonneg_right (by omega) (by omega)
      omega
    · rw [Int.mul_zero]; omega
theorem sq_lt {a b : Int} (h0 : 0 ≤ a) (h : a < b) : a * a < b * b := Int.lt_of_le_of_lt (Int.mul_le_mul_of_nonneg_left (Int.le_of_lt h) h0) (Int.mul_lt_mul_of_pos_right h (by omega))
theorem keepV {U E B L W D r0 r1 a : Int} (hD : 0 ≤ D) (hE : 0 ≤ E) (hB : B * B ≤ U * E) (hr0 : 0 ≤ r0) (hr1 : 0 < r1) (hL : 0 ≤ L) (h1 : r1 * U ≤ r0 * D * L) (h2 : E ≤ D * W)
    (ha : a = (r1 - r0) * L - r1 * W) (ha0 : 0 ≤ a) (ha1 : 4 * r0 * r1 * (L * W) ≤ a * a) : U + 2 * B + E ≤ D * L := by
  rcases Int.lt_or_le (D * L) (U + 2 * B + E) with h | h
  · exfalso
    have h3 : r1 * E ≤ r1 * (D * W) := Int.mul_le_mul_of_nonneg_left h2 (by omega)
    have h4 : r1 * (D * L) < r1 * (U + 2 * B + E) := Int.mul_lt_mul_of_pos_left h hr1
    have e1 : r1 * (U + 2 * B + E) = r1 * U + 2 * (r1 * B) + r1 * E := by grind
    have e2 : D * a = r1 * (D * L) - r0 * D * L - r1 * (D * W) := by rw [ha]; grind
    have h5 : D * a < 2 * (r1 * B) := by omega
    have h6 := sq_lt (Int.mul_nonneg hD ha0) h5
    have h7 : r1 * U * (r1 * E) ≤ r0 * D * L * (r1 * (D * W)) := Int.mul_le_mul h1 h3 (Int.mul_nonneg (by omega) hE) (Int.mul_nonneg (Int.mul_nonneg hr0 hD) hL)
    have h8 : r1 * r1 * (B * B) ≤ r1 * r1 * (U * E) := Int.mul_le_mul_of_nonneg_left hB (sqn r1)
    have h9 : D * D * (4 * r0 * r1 * (L * W)) ≤ D * D * (a * a) := Int.mul_le_mul_of_nonneg_left ha1 (sqn D)
    have e3 : D * a * (D * a) = D * D * (a * a) := by grind
    have e4 : 2 * (r1 * B) * (2 * (r1 * B)) = 4 * (r1 * r1 * (B * B)) := by grind
    have e5 : r1 * U * (r1 * E) = r1 * r1 * (U * E) := by grind
    have e6 : D * D * (4 * r0 * r1 * (L * W)) = 4 * (r0 * D * L * (r1 * (D * W))) := by grind
    omega
  · exact h
theorem convex {α β c t : Int} (ha : 0 ≤ α) (ht : -c ≤ t ∧ t ≤ c) : α * (t * t) + β * t ≤ α * (c * c) + β * c ∨ α * (t * t) + β * t ≤ α * (c * c) + β * (-c) := by
  have h1 : t * t ≤ c * c := by
    have := Int.mul_nonneg (show 0 ≤ c - t by omega) (show 0 ≤ c + t by omega)
    have e : (c - t) * (c + t) = c * c - t * t := by grind
    omega
  have h2 := Int.mul_le_mul_of_nonneg_left h1 ha
  rcases Int.le_total 0 β with hb | hb
  · have := Int.mul_le_mul_of_nonneg_left ht.2 hb; left; omega
  · have := Int.mul_le_mul_of_nonpos_left hb ht.1; right; omega
theorem bnd3 {A B C Dd E F : Int} (psd : ∀ x y z : Int, 0 ≤ A * (x * x) + Dd * (y * y) + F * (z * z) + 2 * (B * (x * y)) + 2 * (C * (x * z)) + 2 * (E * (y * z)))
    (hd : 0 < A * (Dd * F - E * E) + B * (E * C - B * F) + C * (B * E - Dd * C)) (x y z : Int) :
    x * x * (A * (Dd * F - E * E) + B * (E * C - B * F) + C * (B * E - Dd * C)) ≤ (A * (x * x) + Dd * (y * y) + F * (z * z) + 2 * (B * (x * y)) + 2 * (C * (x * z)) + 2 * (E * (y * z))) * (Dd * F - E * E) := by
  have hM : 0 ≤ Dd * F - E * E := by
    have := cauchy (U := Dd) (E := F) (B := E) fun s t => by have := psd 0 s t; grind
    omega
  have h0 : 0 < Dd * F - E * E := by
    rcases Int.lt_or_le 0 (Dd * F - E * E) with h | h
    · exact h
    · exfalso
      have hz : Dd * F - E * E = 0 := by omega
      have hDd : 0 ≤ Dd := by have := psd 0 1 0; grind
      have hF : 0 ≤ F := by have := psd 0 0 1; grind
      have h1 := psd2 (a := F) (b := -E) (c := Dd) hF hDd (by have : F * Dd - -E * -E = Dd * F - E * E := by grind
                                                              omega) B C
      have e1 : A * (Dd * F - E * E) + B * (E * C - B * F) + C * (B * E - Dd * C) = A * (Dd * F - E * E) - (F * (B * B) + 2 * (-E * (B * C)) + Dd * (C * C)) := by grind
      rw [e1, hz] at hd
      omega
  refine Int.le_of_sub_nonneg (nn_of_mul h0 ?_)
  have hq := psd 0 (( Dd * F - E * E) * y + (B * F - E * C) * x) ((Dd * F - E * E) * z + (C * Dd - E * B) * x)
  have e1 : (Dd * F - E * E) * ((A * (x * x) + Dd * (y * y) + F * (z * z) + 2 * (B * (x * y)) + 2 * (C * (x * z)) + 2 * (E * (y * z))) * (Dd * F - E * E) - x * x * (A * (Dd * F - E * E) + B * (E * C - B * F) + C * (B * E - Dd * C))) = A * (0 * 0) + Dd * (((Dd * F - E * E) * y + (B * F - E * C) * x) * ((Dd * F - E * E) * y + (B * F - E * C) * x)) + F * (((Dd * F - E * E) * z + (C * Dd - E * B) * x) * ((Dd * F - E * E) * z + (C * Dd - E * B) * x)) + 2 * (B * (0 * ((Dd * F - E * E) * y + (B * F - E * C) * x))) + 2 * (C * (0 * ((Dd * F - E * E) * z + (C * Dd - E * B) * x))) + 2 * (E * (((Dd * F - E * E) * y + (B * F - E * C) * x) * ((Dd * F - E * E) * z + (C * Dd - E * B) * x))) := by grind
  rw [e1]; exact hq
/-! ### Values over functions -/
def bilF (n : Nat) (f : List (List Int)) (u v : Nat → Int) : Int := sumN (fun i => u i * sumN (fun k => g2 f i k * v k) n) n
abbrev valF (n : Nat) (f : List (List Int)) (u : Nat → Int) : Int := bilF n f u u
theorem valI_F (n : Nat) (f : List (List Int)) (x : List Int) : valI n f x = valF n f (gi x) := rfl
theorem valF_congr {n : Nat} {f : List (List Int)} {u v : Nat → Int} (h : ∀ k, k < n → u k = v k) : valF n f u = valF n f v :=
  sumN_congr fun i hi => by rw [h i hi]; congr 1; exact sumN_congr fun k hk => by rw [h k hk]
def SymF (n : Nat) (f : List (List Int)) : Prop := ∀ i k, i < n → k < n → g2 f k i = g2 f i k
theorem val1 (f : List (List Int)) (u : Nat → Int) : valF 1 f u = g2 f 0 0 * (u 0 * u 0) := by
  simp only [bilF, sumN]; grind
theorem val2 {f : List (List Int)} (h : SymF 2 f) (u : Nat → Int) : valF 2 f u = g2 f 0 0 * (u 0 * u 0) + 2 * (g2 f 0 1 * (u 0 * u 1)) + g2 f 1 1 * (u 1 * u 1) := by
  simp only [bilF, sumN, h 0 1 (by decide) (by decide)]; grind
theorem val3 {f : List (List Int)} (h : SymF 3 f) (u : Nat → Int) : valF 3 f u = g2 f 0 0 * (u 0 * u 0) + g2 f 1 1 * (u 1 * u 1) + g2 f 2 2 * (u 2 * u 2) + 2 * (g2 f 0 1 * (u 0 * u 1)) + 2 * (g2 f 0 2 * (u 0 * u 2)) + 2 * (g2 f 1 2 * (u 1 * u 2)) := by
  simp only [bilF, sumN, h 0 1 (by decide) (by decide), h 0 2 (by decide) (by decide), h 1 2 (by decide) (by decide)]; grind
theorem nev_psd {n : Nat} (h1 : 1 ≤ n) (h3 : n ≤ 3) {d : List (List Int)} (hs : SymF n d) (hn : nevB n d = true) (u : Nat → Int) : 0 ≤ valF n d u := by
  have ha : ∀ l ∈ setsOf n, 0 ≤ detL d l := fun l hl => by have := List.all_eq_true.1 hn l hl; simpa only [decide_eq_true_eq] using this
  have hc : n = 1 ∨ n = 2 ∨ n = 3 := by omega
  rcases hc with rfl | rfl | rfl
  · have a : 0 ≤ g2 d 0 0 := ha [0] (by decide)
    rw [val1]; exact Int.mul_nonneg a (sqn _)
  · have a : 0 ≤ g2 d 0 0 := ha [0] (by decide)
    have b : 0 ≤ g2 d 1 1 := ha [1] (by decide)
    have c := ha [0, 1] (by decide)
    simp only [detL] at c
    rw [hs 0 1 (by decide) (by decide)] at c
    rw [val2 hs]
    exact psd2 a b c _ _
  · have a : 0 ≤ g2 d 0 0 := ha [0] (by decide)
    have b : 0 ≤ g2 d 1 1 := ha [1] (by decide)
    have b' : 0 ≤ g2 d 2 2 := ha [2] (by decide)
    have c := ha [0, 1] (by decide)
    have c1 := ha [0, 2] (by decide)
    have c2 := ha [1, 2] (by decide)
    have c3 := ha [0, 1, 2] (by decide)
    simp only [detL] at c c1 c2 c3
    rw [hs 0 1 (by decide) (by decide)] at c c3
    rw [hs 0 2 (by decide) (by decide)] at c1 c3
    rw [hs 1 2 (by decide) (by decide)] at c2 c3
    rw [val3 hs]
    exact psd3 a b b' c c1 c2 c3 _ _ _
theorem pos_pd {f : List (List Int)} (h1 : 1 ≤ f.length) (h3 : f.length ≤ 3) (hs : SymF f.length f) (hp : posB f = true) (u : Nat → Int) : 0 ≤ valF f.length f u := by
  have hk : ∀ k, k < f.length → 0 < detL f (List.range (k + 1)) := by simpa [posB] using hp
  generalize f.length = n at h1 h3 hs hk ⊢
  have hc : n = 1 ∨ n = 2 ∨ n = 3 := by omega
  rcases hc with rfl | rfl | rfl
  · have a := hk 0 (by decide)
    simp [detL, List.range, List.range.loop] at a
    rw [val1]; exact Int.mul_nonneg (by omega) (sqn _)
  · have a := hk 0 (by decide); have b := hk 1 (by decide)
    simp [detL, List.range, List.range.loop] at a b
    rw [hs 0 1 (by decide) (by decide)] at b
    rw [val2 hs]
    refine psd2 (by omega) ?_ (by omega) _ _
    have := sqn (g2 f 0 1)
    exact nn_of_mul a (by omega)
  · have a := hk 0 (by decide); have b := hk 1 (by decide); have c := hk 2 (by decide)
    simp [detL, List.range, List.range.loop] at a b c
    rw [hs 0 1 (by decide) (by decide)] at b c
    rw [hs 0 2 (by decide) (by decide), hs 1 2 (by decide) (by decide)] at c
    rw [val3 hs]
    generalize g2 f 0 0 = a0, g2 f 0 1 = b0, g2 f 0 2 = c0, g2 f 1 1 = d0, g2 f 1 2 = e0, g2 f 2 2 = f0 at a b c ⊢
    generalize u 0 = x, u 1 = y, u 2 = z
    refine nn_of_mul a ?_
    have e1 : a0 * (a0 * (x * x) + d0 * (y * y) + f0 * (z * z) + 2 * (b0 * (x * y)) + 2 * (c0 * (x * z)) + 2 * (e0 * (y * z))) = (a0 * x + b0 * y + c0 * z) * (a0 * x + b0 * y + c0 * z) + ((a0 * d0 - b0 * b0) * (y * y) + 2 * ((a0 * e0 - b0 * c0) * (y * z)) + (a0 * f0 - c0 * c0) * (z * z)) := by grind
    rw [e1]
    have e2 : (a0 * d0 - b0 * b0) * (a0 * f0 - c0 * c0) - (a0 * e0 - b0 * c0) * (a0 * e0 - b0 * c0) = a0 * (a0 * (d0 * f0 - e0 * e0) + b0 * (e0 * c0 - b0 * f0) + c0 * (b0 * e0 - d0 * c0)) := by grind
    have h2 : 0 ≤ (a0 * d0 - b0 * b0) * (a0 * f0 - c0 * c0) - (a0 * e0 - b0 * c0) * (a0 * e0 - b0 * c0) := by rw [e2]; exact Int.mul_nonneg (by omega) (by omega)
    have h4 := sqn (a0 * e0 - b0 * c0)
    have b' : 0 < a0 * d0 - b0 * b0 := by omega
    have := psd2 (a := a0 * d0 - b0 * b0) (b := a0 * e0 - b0 * c0) (c := a0 * f0 - c0 * c0) (by omega) (nn_of_mul b' (by omega)) h2 y z
    have := sqn (a0 * x + b0 * y + c0 * z); omega
theorem val_lin {n : Nat} (h1 : 1 ≤ n) (h3 : n ≤ 3) {f : List (List Int)} (hs : SymF n f) (u v : Nat → Int) (s t : Int) : valF n f (fun k => s * u k + t * v k) = s * s * valF n f u + 2 * (s * t * bilF n f u v) + t * t * valF n f v := by
  have hc : n = 1 ∨ n = 2 ∨ n = 3 := by omega
  rcases hc with rfl | rfl | rfl
  · simp only [bilF, sumN]; grind
  · simp only [bilF, sumN, hs 0 1 (by decide) (by decide)]; grind
  · simp only [bilF, sumN, hs 0 1 (by decide) (by decide), hs 0 2 (by decide) (by decide), hs 1 2 (by decide) (by decide)]; grind
theorem cauchyF {n : Nat} (h1 : 1 ≤ n) (h3 : n ≤ 3) {f : List (List Int)} (hs : SymF n f) (hp : ∀ u, 0 ≤ valF n f u) (u v : Nat → Int) : bilF n f u v * bilF n f u v ≤ valF n f u * valF n f v :=
  cauchy fun s t => by rw [← val_lin h1 h3 hs]; exact hp _
theorem img_val {p : LevitatePlant} (h1 : 1 ≤ p.Noise.length) (h3 : p.Noise.length ≤ 3) {m : Nat} {f : List (List Int)} (r : Arr2_Int) (x : List Int) :
    valF p.Noise.length (dM p m f r) (gi x) = r.e0 * p.Den * p.Den * valF p.Noise.length f (gi x) - r.e1 * valF p.Noise.length f (fun i => dotP p m i x) := by
  have e : valF p.Noise.length (dM p m f r) (gi x) = sumN (fun i => gi x i * sumN (fun k => dI p m f r i k * gi x k) p.Noise.length) p.Noise.length :=
    sumN_congr fun i hi => by congr 1; exact sumN_congr fun k hk => by unfold dM; rw [g2_tab2 hi hk]
  rw [e]
  unfold dotP dI imI valF bilF
  generalize p.Noise.length = n at h1 h3 ⊢
  have hc : n = 1 ∨ n = 2 ∨ n = 3 := by omega
  rcases hc with rfl | rfl | rfl
  · simp only [sumN]; grind
  · simp only [sumN]; grind
  · simp only [sumN]; grind
theorem sym_dM {p : LevitatePlant} (h1 : 1 ≤ p.Noise.length) (h3 : p.Noise.length ≤ 3) {m : Nat} {f : List (List Int)} (hs : SymF p.Noise.length f) (r : Arr2_Int) : SymF p.Noise.length (dM p m f r) := fun i k hi hk => by
  unfold dM
  rw [g2_tab2 hk hi, g2_tab2 hi hk]
  unfold dI
  rw [hs i k hi hk]
  have : imI p m f k i = imI p m f i k := by
    unfold imI
    revert hs hi hk
    generalize p.Noise.length = n at h1 h3 ⊢
    intro hs hi hk
    have hc : n = 1 ∨ n = 2 ∨ n = 3 := by omega
    rcases hc with rfl | rfl | rfl
    · simp only [sumN]; grind
    · simp only [sumN, hs 0 1 (by decide) (by decide)]; grind
    · simp only [sumN, hs 0 1 (by decide) (by decide), hs 0 2 (by decide) (by decide), hs 1 2 (by decide) (by decide)]; grind
  rw [this]
theorem val_out {n : Nat} (h1 : 1 ≤ n) (h3 : n ≤ 3) {f : List (List Int)} (hs : SymF n f) (hp : ∀ u, 0 ≤ valF n f u) {c e : Nat → Int} {j : Nat} (hj : j < n) (he : -c j ≤ e j ∧ e j ≤ c j) :
    ∃ s : Int, (s = 1 ∨ s = -1) ∧ valF n f e ≤ valF n f (fun k => if k = j then c j * s else e k) := by
  have ha : 0 ≤ valF n f (fun k => if k = j then 1 else 0) := hp _
  have lin : ∀ t : Int, valF n f (fun k => if k = j then t else e k) = valF n f (fun k => if k = j then 1 else 0) * (t * t) + 2 * bilF n f (fun k => if k = j then 1 else 0) (fun k => if k = j then 0 else e k) * t + valF n f (fun k => if k = j then 0 else e k) := fun t => by
    have := val_lin h1 h3 hs (fun k => if k = j then 1 else 0) (fun k => if k = j then 0 else e k) t 1
    have e1 : valF n f (fun k => if k = j then t else e k) = valF n f (fun k => t * (if k = j then 1 else 0) + 1 * (if k = j then 0 else e k)) := valF_congr fun k _ => by by_cases h : k = j <;> simp [h]
    rw [e1, this]; grind
  have e0 : valF n f e = valF n f (fun k => if k = j then e j else e k) := valF_congr fun k _ => by by_cases h : k = j <;> simp [h]
  rw [e0, lin (e j)]
  rcases convex (α := valF n f (fun k => if k = j then 1 else 0)) (β := 2 * bilF n f (fun k => if k = j then 1 else 0) (fun k => if k = j then 0 else e k)) ha he with h | h
  · refine ⟨1, .inl rfl, ?_⟩
    rw [lin (c j * 1), Int.mul_one]; omega
  · refine ⟨-1, .inr rfl, ?_⟩
    rw [lin (c j * -1)]
    have e2 : c j * -1 = -c j := by omega
    have e3 : -c j * -c j = c j * c j := by grind
    rw [e2, e3]; omega
theorem sgn_ex {n : Nat} (h3 : n ≤ 3) (s : Nat → Int) (hs : ∀ k, k < n → s k = 1 ∨ s k = -1) : ∃ q, q < 2 ^ n ∧ ∀ k, k < n → sgn q k = s k := by
  have key : ∀ n, n ≤ 3 → (∀ k, k < n → s k = 1 ∨ s k = -1) → ∃ q, q < 2 ^ n ∧ ∀ k, k < n → sgn q k = s k := by
    intro n
    induction n with
    | zero => intro _ _; exact ⟨0, by decide, fun k hk => by omega⟩
    | succ n ih =>
      intro h3 hs
      obtain ⟨q, hq, h⟩ := ih (by omega) fun k hk => hs k (by omega)
      have hp : 2 ^ (n + 1) = 2 * 2 ^ n := by rw [Nat.pow_succ]; omega
      rcases hs n (by omega) with h1 | h1
      · refine ⟨q, by omega, fun k hk => ?_⟩
        by_cases hkn : k = n
        · subst hkn; unfold sgn; rw [Nat.div_eq_of_lt hq, h1]; rfl
        · exact h k (by omega)
      · refine ⟨q + 2 ^ n, by omega, fun k hk => ?_⟩
        by_cases hkn : k = n
        · subst hkn
          unfold sgn
          rw [Nat.add_div_right _ (Nat.pow_pos (by decide)), Nat.div_eq_of_lt hq, h1]; rfl
        · have hlt : k < n := by omega
          rw [← h k hlt]
          unfold sgn
          have e : 2 ^ n = 2 ^ k * (2 * 2 ^ (n - 1 - k)) := by rw [← Nat.mul_assoc, ← Nat.pow_succ, ← Nat.pow_add]; congr 1; omega
          rw [e, Nat.add_mul_div_left _ _ (Nat.pow_pos (by decide)), Nat.add_mul_mod_self_left]
  exact key n h3 hs
theorem val_worst {p : LevitatePlant} (h1 : 1 ≤ p.Noise.length) (h3 : p.Noise.length ≤ 3) {f : List (List Int)} (hs : SymF p.Noise.length f) (hp : ∀ u, 0 ≤ valF p.Noise.length f u) {D : Int} {e : Nat → Int}
    (he : ∀ k, k < p.Noise.length → -(D * (gi p.Noise k + 1)) ≤ e k ∧ e k ≤ D * (gi p.Noise k + 1)) : valF p.Noise.length f e ≤ D * D * worstI p f := by
  have ends : ∃ s : Nat → Int, (∀ k, k < p.Noise.length → s k = 1 ∨ s k = -1) ∧ valF p.Noise.length f e ≤ valF p.Noise.length f (fun k => D * (gi p.Noise k + 1) * s k) := by
    have key : ∀ j, j ≤ p.Noise.length → ∃ s : Nat → Int, (∀ k, k < p.Noise.length → s k = 1 ∨ s k = -1) ∧ valF p.Noise.length f e ≤ valF p.Noise.length f (fun k => if k < j then D * (gi p.Noise k + 1) * s k else e k) := by
      intro j
      induction j with
      | zero => intro _; exact ⟨fun _ => 1, fun _ _ => .inl rfl, by simp⟩
      | succ j ih =>
        intro hj
        obtain ⟨s, hsg, hv⟩ := ih (by omega)
        obtain ⟨q, hq, hv2⟩ := val_out h1 h3 hs hp (c := fun k => D * (gi p.Noise k + 1)) (e := fun k => if k < j then D * (gi p.Noise k + 1) * s k else e k) (j := j) (by omega) (by simpa using he j (by omega))
        refine ⟨fun k => if k = j then q else s k, fun k hk => by by_cases h : k = j <;> simp [h, hq]; exact hsg k hk, Int.le_trans hv (Int.le_trans hv2 (Int.le_of_eq (valF_congr fun k _ => ?_)))⟩
        by_cases h : k = j
        · subst h; simp
        · by_cases h2 : k < j
          · simp [h, h2, show k < j + 1 by omega]
          · simp [h, h2, show ¬ k < j + 1 by omega]
    obtain ⟨s, hsg, hv⟩ := key p.Noise.length (Nat.le_refl _)
    exact ⟨s, hsg, Int.le_trans hv (Int.le_of_eq (valF_congr fun k hk => by simp [hk]))⟩
  obtain ⟨s, hsg, hv⟩ := ends
  obtain ⟨q, hq, hqs⟩ := sgn_ex h3 s hsg
  have e1 : valF p.Noise.length f (fun k => D * (gi p.Noise k + 1) * s k) = D * D * valI p.Noise.length f (xv p q) := by
    have e2 : valF p.Noise.length f (fun k => D * (gi p.Noise k + 1) * s k) = valF p.Noise.length f (fun k => D * gi (xv p q) k + 0 * 0) := valF_congr fun k hk => by
      unfold xv; rw [gi_tab hk, hqs k hk]; grind
    rw [e2, val_lin h1 h3 hs (gi (xv p q)) (fun _ => 0) D 0, valI_F]; grind
  have h4 : valI p.Noise.length f (xv p q) ≤ worstI p f := (wst_max (fun s => valI p.Noise.length f (xv p s)) (2 ^ p.Noise.length) (Nat.pow_pos (by decide))).2 q hq
  rw [e1] at hv
  exact Int.le_trans hv (Int.mul_le_mul_of_nonneg_left h4 (sqn D))
theorem worst_nn {p : LevitatePlant} (h1 : 1 ≤ p.Noise.length) (h3 : p.Noise.length ≤ 3) {f : List (List Int)} (hs : SymF p.Noise.length f) (hp : ∀ u, 0 ≤ valF p.Noise.length f u) : 0 ≤ worstI p f := by
  obtain ⟨⟨s, _, he⟩, _⟩ := wst_max (fun s => valI p.Noise.length f (xv p s)) (2 ^ p.Noise.length) (Nat.pow_pos (by decide))
  unfold worstI; rw [he]; exact hp _
theorem bound_val {f : List (List Int)} (h1 : 1 ≤ f.length) (h3 : f.length ≤ 3) (hs : SymF f.length f) (hp : posB f = true) {u : Nat → Int} {i : Nat} (hi : i < f.length) :
    0 < detL f (List.range f.length) ∧ u i * u i * detL f (List.range f.length) ≤ valF f.length f u * detL f (butL f.length i) := by
  have hk : ∀ k, k < f.length → 0 < detL f (List.range (k + 1)) := by simpa [posB] using hp
  have hpd := fun u => pos_pd h1 h3 hs hp u
  have hd : 0 < detL f (List.range f.length) := by have := hk (f.length - 1) (by omega); rwa [Nat.sub_add_cancel h1] at this
  refine ⟨hd, ?_⟩
  clear hp
  generalize f.length = n at h1 h3 hs hi hk hpd hd ⊢
  have hc : n = 1 ∨ n = 2 ∨ n = 3 := by omega
  rcases hc with rfl | rfl | rfl
  · obtain rfl : i = 0 := by omega
    have e1 : detL f (List.range 1) = g2 f 0 0 := rfl
    have e2 : detL f (butL 1 0) = 1 := rfl
    rw [e1, e2, val1]
    exact Int.le_of_eq (by grind)
  · have a : 0 < g2 f 0 0 := hk 0 (by decide)
    have e1 : detL f (List.range 2) = g2 f 0 0 * g2 f 1 1 - g2 f 0 1 * g2 f 1 0 := rfl
    rw [hs 0 1 (by decide) (by decide)] at e1
    have b : 0 ≤ g2 f 1 1 := nn_of_mul a (by have := sqn (g2 f 0 1); omega)
    rw [e1, val2 hs]
    have hc : i = 0 ∨ i = 1 := by omega
    rcases hc with rfl | rfl
    · have e2 : detL f (butL 2 0) = g2 f 1 1 := rfl
      rw [e2]
      have e3 : (g2 f 0 0 * (u 0 * u 0) + 2 * (g2 f 0 1 * (u 0 * u 1)) + g2 f 1 1 * (u 1 * u 1)) * g2 f 1 1 - u 0 * u 0 * (g2 f 0 0 * g2 f 1 1 - g2 f 0 1 * g2 f 0 1) = (g2 f 0 1 * u 0 + g2 f 1 1 * u 1) * (g2 f 0 1 * u 0 + g2 f 1 1 * u 1) := by grind
      have := sqn (g2 f 0 1 * u 0 + g2 f 1 1 * u 1); omega
    · have e2 : detL f (butL 2 1) = g2 f 0 0 := rfl
      rw [e2]
      have e3 : (g2 f 0 0 * (u 0 * u 0) + 2 * (g2 f 0 1 * (u 0 * u 1)) + g2 f 1 1 * (u 1 * u 1)) * g2 f 0 0 - u 1 * u 1 * (g2 f 0 0 * g2 f 1 1 - g2 f 0 1 * g2 f 0 1) = (g2 f 0 1 * u 1 + g2 f 0 0 * u 0) * (g2 f 0 1 * u 1 + g2 f 0 0 * u 0) := by grind
      have := sqn (g2 f 0 1 * u 1 + g2 f 0 0 * u 0); omega
  · have a : 0 < g2 f 0 0 := hk 0 (by decide)
    have b1 : 0 < g2 f 0 0 * g2 f 1 1 - g2 f 0 1 * g2 f 1 0 := hk 1 (by decide)
    have e1 : detL f (List.range 3) = g2 f 0 0 * (g2 f 1 1 * g2 f 2 2 - g2 f 1 2 * g2 f 2 1) + g2 f 0 1 * (g2 f 1 2 * g2 f 2 0 - g2 f 1 0 * g2 f 2 2) + g2 f 0 2 * (g2 f 1 0 * g2 f 2 1 - g2 f 1 1 * g2 f 2 0) := rfl
    rw [hs 0 1 (by decide) (by decide)] at e1 b1
    rw [hs 0 2 (by decide) (by decide), hs 1 2 (by decide) (by decide)] at e1
    rw [e1] at hd ⊢
    have psd : ∀ x y z : Int, 0 ≤ g2 f 0 0 * (x * x) + g2 f 1 1 * (y * y) + g2 f 2 2 * (z * z) + 2 * (g2 f 0 1 * (x * y)) + 2 * (g2 f 0 2 * (x * z)) + 2 * (g2 f 1 2 * (y * z)) := fun x y z => by
      have := hpd (fun k => if k = 0 then x else if k = 1 then y else z)
      rw [val3 hs] at this; simpa using this
    rw [val3 hs]
    have hc : i = 0 ∨ i = 1 ∨ i = 2 := by omega
    rcases hc with rfl | rfl | rfl
    · have e2 : detL f (butL 3 0) = g2 f 1 1 * g2 f 2 2 - g2 f 1 2 * g2 f 2 1 := rfl
      rw [hs 1 2 (by decide) (by decide)] at e2
      rw [e2]
      exact bnd3 psd (A := g2 f 0 0) (B := g2 f 0 1) (C := g2 f 0 2) (Dd := g2 f 1 1) (E := g2 f 1 2) (F := g2 f 2 2) hd _ _ _
    · have e2 : detL f (butL 3 1) = g2 f 0 0 * g2 f 2 2 - g2 f 0 2 * g2 f 2 0 := rfl
      rw [hs 0 2 (by decide) (by decide)] at e2
      rw [e2]
      have := bnd3 (A := g2 f 1 1) (B := g2 f 0 1) (C := g2 f 1 2) (Dd := g2 f 0 0) (E := g2 f 0 2) (F := g2 f 2 2) (fun x y z => by have := psd y x z; grind) (by grind) (u 1) (u 0) (u 2)
      grind
    · have e2 : detL f (butL 3 2) = g2 f 0 0 * g2 f 1 1 - g2 f 0 1 * g2 f 1 0 := rfl
      rw [hs 0 1 (by decide) (by decide)] at e2
      rw [e2]
      have := bnd3 (A := g2 f 2 2) (B := g2 f 0 2) (C := g2 f 1 2) (Dd := g2 f 0 0) (E := g2 f 0 1) (F := g2 f 1 1) (fun x y z => by have := psd y z x; grind) (by grind) (u 2) (u 0) (u 1)
      grind

/-! ### An accepted proof -/
structure Prf (p : LevitatePlant) (f : List (List Int)) (r : Arr2_Int) (L : Int) : Prop where
  rp : Rp p
  rf : Rf f
  len : f.length = p.Noise.length
  rr : Rr r
  pos : posB f = true
  les : ∀ m, m < p.Maps.length → nevB p.Noise.length (dM p m f r) = true
  lev : 0 ≤ L ∧ L ≤ 100000000000000
  kpt : kptB L (worstI p f) r = true
theorem lsM_none {p : LevitatePlant} {f : List (List Int)} {r : Arr2_Int} : lsM p f r = none ↔ ∀ m, m < p.Maps.length → nevB p.Noise.length (dM p m f r) = true := by
  unfold lsM
  rw [fs_none]
  constructor
  · intro h m hm
    have := h m hm
    rw [Nat.zero_add] at this
    split at this
    · assumption
    · cases this
  · intro h m hm
    rw [Nat.zero_add, if_pos (h m hm)]
theorem pvV_zero {p : LevitatePlant} {f : List (List Int)} {r : Arr2_Int} : (pvV p f r).2 = 0 ↔ Rr r ∧ posB f = true ∧ ∀ m, m < p.Maps.length → nevB p.Noise.length (dM p m f r) = true := by
  rw [← lsM_none, ← rateB_iff]
  unfold pvV
  cases hr : rateB r <;> cases hp : posB f <;> cases hl : lsM p f r <;> simp
theorem cpV_prf {p : LevitatePlant} (h : Rp p) {x : LevitateProof} (hf : Rf x.Form) (hn : x.Form.length = p.Noise.length) (h0 : (cpV p x).2 = 0) : Prf p x.Form x.Rate x.Level := by
  unfold cpV at h0
  by_cases h1 : (pvV p x.Form x.Rate).2 = 0
  · rw [if_pos h1] at h0
    by_cases h2 : 0 ≤ x.Level ∧ x.Level ≤ 100000000000000
    · rw [if_pos h2] at h0
      by_cases h3 : kptB x.Level (worstI p x.Form) x.Rate = true
      · obtain ⟨a, b, c⟩ := pvV_zero.1 h1
        exact ⟨h, hf, hn, a, b, c, h2, h3⟩
      · rw [if_neg h3] at h0; cases h0
    · rw [if_neg h2] at h0; cases h0
  · rw [if_neg h1] at h0; exact absurd h0 h1
theorem Prf.cp {p : LevitatePlant} {x : LevitateProof} (h : Prf p x.Form x.Rate x.Level) : cpV p x = ((List.range x.Form.length).map fun i => bndV (x.Level * detL x.Form (butL x.Form.length i)) (detL x.Form (List.range x.Form.length)), 0) := by
  unfold cpV
  rw [if_pos (pvV_zero.2 ⟨h.rr, h.pos, h.les⟩), if_pos h.lev, if_pos h.kpt]
section
variable {p : LevitatePlant} {f : List (List Int)} {r : Arr2_Int} {L : Int}
theorem Prf.n1 (h : Prf p f r L) : 1 ≤ p.Noise.length := by have := h.rf.n1; have := h.len; omega
theorem Prf.sym (h : Prf p f r L) : SymF p.Noise.length f := by rw [← h.len]; exact h.rf.sym
theorem Prf.psd (h : Prf p f r L) (u : Nat → Int) : 0 ≤ valF p.Noise.length f u := by rw [← h.len]; exact pos_pd h.rf.n1 h.rf.n3 h.rf.sym h.pos u
theorem Prf.wst (h : Prf p f r L) : 0 ≤ worstI p f := worst_nn h.n1 h.rp.n3 h.sym h.psd
theorem Prf.step (h : Prf p f r L) {x : List Int} {s : LevitateSample} (hs : Sm p s) (hv : valF p.Noise.length f (gi x) ≤ L) : valF p.Noise.length f (gi (stepI p x s)) ≤ L := by
  have hm : s.Map.toNat < p.Maps.length := by have := hs.m0; have := hs.m1; omega
  have hd := h.rp.den
  have hD : 0 < p.Den * p.Den := Int.mul_pos (by omega) (by omega)
  have h1 := nev_psd h.n1 h.rp.n3 (sym_dM h.n1 h.rp.n3 h.sym r) (h.les _ hm) (gi x)
  rw [img_val h.n1 h.rp.n3] at h1
  have hr0 := h.rr.e0; have hr1 := h.rr.e1
  -- what rounding and the disturbance add
  let e : Nat → Int := fun i => p.Den * gi (stepI p x s) i - dotP p s.Map.toNat i x
  have he : ∀ k, k < p.Noise.length → -(p.Den * (gi p.Noise k + 1)) ≤ e k ∧ e k ≤ p.Den * (gi p.Noise k + 1) := fun k hk => by
    have h3 := hs.nz k hk
    have h4 : gi (stepI p x s) k = dotP p s.Map.toNat k x / p.Den + gi s.Noise k := by unfold stepI; rw [gi_tab hk]
    have h5 := Int.mul_ediv_add_emod (dotP p s.Map.toNat k x) p.Den
    have h6 := Int.emod_nonneg (dotP p s.Map.toNat k x) (show p.Den ≠ 0 by omega)
    have h7 := Int.emod_lt_of_pos (dotP p s.Map.toNat k x) (show 0 < p.Den by omega)
    have h8 : p.Den * -gi p.Noise k ≤ p.Den * gi s.Noise k := Int.mul_le_mul_of_nonneg_left h3.1 (by omega)
    have h9 : p.Den * gi s.Noise k ≤ p.Den * gi p.Noise k := Int.mul_le_mul_of_nonneg_left h3.2 (by omega)
    show -(p.Den * (gi p.Noise k + 1)) ≤ p.Den * gi (stepI p x s) k - dotP p s.Map.toNat k x ∧ p.Den * gi (stepI p x s) k - dotP p s.Map.toNat k x ≤ p.Den * (gi p.Noise k + 1)
    rw [h4, Int.mul_add, Int.mul_add, Int.mul_one]
    rw [Int.mul_neg] at h8
    omega
  have h2 := val_worst h.n1 h.rp.n3 h.sym h.psd he
  have e1 : valF p.Noise.length f (fun i => 1 * dotP p s.Map.toNat i x + 1 * e i) = valF p.Noise.length f (fun i => p.Den * gi (stepI p x s) i + 0 * 0) := valF_congr fun k _ => by show 1 * _ + 1 * (p.Den * gi (stepI p x s) k - dotP p s.Map.toNat k x) = _; omega
  rw [val_lin h.n1 h.rp.n3 h.sym, val_lin h.n1 h.rp.n3 h.sym (gi (stepI p x s)) (fun _ => 0) p.Den 0] at e1
  have hk := h.kpt
  unfold kptB at hk
  simp only [Bool.and_eq_true, decide_eq_true_eq] at hk
  have key := keepV (U := valF p.Noise.length f (fun i => dotP p s.Map.toNat i x)) (E := valF p.Noise.length f e) (B := bilF p.Noise.length f (fun i => dotP p s.Map.toNat i x) e) (L := L) (W := worstI p f) (D := p.Den * p.Den) (r0 := r.e0) (r1 := r.e1)
    (Int.le_of_lt hD) (h.psd e) (cauchyF h.n1 h.rp.n3 h.sym h.psd _ _) hr0.1 (by omega) h.lev.1 (by
      have := Int.mul_le_mul_of_nonneg_left hv (show 0 ≤ r.e0 * p.Den * p.Den from Int.mul_nonneg (Int.mul_nonneg hr0.1 (by omega)) (by omega))
      have e2 : r.e0 * (p.Den * p.Den) * L = r.e0 * p.Den * p.Den * L := by grind
      rw [e2]; omega) h2 rfl hk.1 (by have e3 : 4 * r.e0 * r.e1 * (L * worstI p f) = 4 * r.e0 * r.e1 * L * worstI p f := by grind
                                      rw [e3]; exact hk.2)
  refine Int.le_of_mul_le_mul_left (a := p.Den * p.Den) ?_ hD
  have e4 : p.Den * p.Den * valF p.Noise.length f (gi (stepI p x s)) = 1 * 1 * valF p.Noise.length f (fun i => dotP p s.Map.toNat i x) + 2 * (1 * 1 * bilF p.Noise.length f (fun i => dotP p s.Map.toNat i x) e) + 1 * 1 * valF p.Noise.length f e := by rw [e1]; simp
  rw [e4]; omega
theorem det_b4 {n : Nat} {f : List (List Int)} (hb : Bd n f 10000) {l : List Nat} (hl : ∀ x ∈ l, x < n) : -6000000000000 ≤ detL f l ∧ detL f l ≤ 6000000000000 := by
  match l, hl with
  | [], _ => simp [detL]
  | [a], hl => have := hb a a (hl a (by simp)) (hl a (by simp)); simp only [detL]; omega
  | [a, b], hl =>
    have ha := hl a (by simp); have hb' := hl b (by simp)
    have h1 := abs_mul (hb a a ha ha) (hb b b hb' hb')
    have h2 := abs_mul (hb a b ha hb') (hb b a hb' ha)
    simp only [detL]; omega
  | [a, b, c], hl =>
    have ha := hl a (by simp); have hb' := hl b (by simp); have hc := hl c (by simp)
    have q1 := abs_mul (hb b b hb' hb') (hb c c hc hc)
    have q2 := abs_mul (hb b c hb' hc) (hb c b hc hb')
    have q3 := abs_mul (hb b c hb' hc) (hb c a hc ha)
    have q4 := abs_mul (hb b a hb' ha) (hb c c hc hc)
    have q5 := abs_mul (hb b a hb' ha) (hb c b hc hb')
    have q6 := abs_mul (hb b b hb' hb') (hb c a hc ha)
    have t1 := abs_mul (B := 200000000) (hb a a ha ha) (b := g2 f b b * g2 f c c - g2 f b c * g2 f c b) (by omega)
    have t2 := abs_mul (B := 200000000) (hb a b ha hb') (b := g2 f b c * g2 f c a - g2 f b a * g2 f c c) (by omega)
    have t3 := abs_mul (B := 200000000) (hb a c ha hc) (b := g2 f b a * g2 f c b - g2 f b b * g2 f c a) (by omega)
    simp only [detL]; omega
  | a :: b :: c :: d :: l, _ => simp [detL]
theorem Prf.bnd (h : Prf p f r L) {i : Nat} (hi : i < p.Noise.length) : 0 ≤ bndV (L * detL f (butL f.length i)) (detL f (List.range f.length)) ∧ bndV (L * detL f (butL f.length i)) (detL f (List.range f.length)) ≤ 274877906944 ∧
    ∀ u : Nat → Int, valF p.Noise.length f u ≤ L → -100000000000 ≤ u i ∧ u i ≤ 100000000000 → -bndV (L * detL f (butL f.length i)) (detL f (List.range f.length)) ≤ u i ∧ u i ≤ bndV (L * detL f (butL f.length i)) (detL f (List.range f.length)) := by
  have hi' : i < f.length := by rw [h.len]; exact hi
  have hn3 := h.rf.n3
  have hbut : ∀ x ∈ butL f.length i, x < f.length := fun x hx => by
    rcases List.mem_append.1 hx with h | h
    · have := List.mem_range.1 h; omega
    · exact List.mem_range.1 (List.mem_of_mem_drop h)
  have hM := det_b4 h.rf.bd hbut
  have hDb := det_b4 h.rf.bd (l := List.range f.length) fun x hx => List.mem_range.1 hx
  have hM0 : 0 ≤ detL f (butL f.length i) ∧ 0 < detL f (List.range f.length) := by
    have hd := (bound_val h.rf.n1 h.rf.n3 h.rf.sym h.pos (u := fun k => if k = i then 1 else 0) hi')
    have h2 := hd.2
    simp only [if_true] at h2
    have h3 := pos_pd h.rf.n1 h.rf.n3 h.rf.sym h.pos (fun k => if k = i then 1 else 0)
    refine ⟨?_, hd.1⟩
    rcases Int.lt_or_le (detL f (butL f.length i)) 0 with hlt | hge
    · have := Int.mul_nonneg h3 (show 0 ≤ -detL f (butL f.length i) by omega)
      rw [Int.mul_neg] at this
      have := hd.1
      omega
    · exact hge
  obtain ⟨q, hq, q1, q2, q3, q4⟩ := least88_run (L * detL f (butL f.length i)) (detL f (List.range f.length))
  have hA := abs_mul (a := L) (A := 100000000000000) (by have := h.lev; omega) hM
  have hA0 : 0 ≤ L * detL f (butL f.length i) := Int.mul_nonneg h.lev.1 hM0.1
  have below : ∀ n : Int, 0 ≤ n → n ≤ 274877906945 → bpr (L * detL f (butL f.length i)) (detL f (List.range f.length)) n = decide (L * detL f (butL f.length i) < n * n * detL f (List.range f.length)) := fun n h0 h1 => by
    have a1 := abs_mul (a := n) (b := n) (A := 274877906945) (B := 274877906945) (by omega) (by omega)
    have a2 := abs_mul (a := n * n) (A := 274877906945 * 274877906945) a1 hDb
    unfold bpr
    generalize L * detL f (butL f.length i) = A at hA ⊢
    generalize n * n * detL f (List.range f.length) = B at a2 ⊢
    rw [Bool.eq_iff_iff, decide_eq_true_eq, decide_eq_true_eq]
    omega
  have hq0 : 0 < q.1 := by
    rcases Int.lt_or_le 0 q.1 with h0 | h0
    · exact h0
    · have : q.1 = 0 := by omega
      have h3 := q3 (by omega)
      rw [below _ q1 q2, this] at h3
      simp at h3; omega
  have hb : bndV (L * detL f (butL f.length i)) (detL f (List.range f.length)) = q.1 - 1 := by
    unfold bndV; rw [hq]; exact w64_id (by show _ ≤ q.1 - 1 ∧ q.1 - 1 ≤ _; omega)
  rw [hb]
  refine ⟨by omega, by omega, fun u hu hub => ?_⟩
  have hv := (bound_val h.rf.n1 h.rf.n3 h.rf.sym h.pos (u := u) hi').2
  have h5 : valF f.length f u * detL f (butL f.length i) ≤ L * detL f (butL f.length i) := Int.mul_le_mul_of_nonneg_right (by rw [h.len]; exact hu) hM0.1
  rcases Int.lt_or_le 274877906944 q.1 with hbig | hsm
  · omega
  · have h3 := q3 hsm
    rw [below _ q1 q2, decide_eq_true_eq] at h3
    have h6 : u i * u i * detL f (List.range f.length) < q.1 * q.1 * detL f (List.range f.length) := by omega
    have h7 : u i * u i < q.1 * q.1 := Int.lt_of_mul_lt_mul_right h6 (by omega)
    have h8 : u i < q.1 := by
      rcases Int.lt_or_le (u i) q.1 with h | h
      · exact h
      · have := Int.mul_le_mul h h (by omega) (by omega : (0 : Int) ≤ u i); omega
    have h9 : -q.1 < u i := by
      rcases Int.lt_or_le (-q.1) (u i) with h | h
      · exact h
      · have := Int.mul_le_mul (show q.1 ≤ -u i by omega) (show q.1 ≤ -u i by omega) (by omega) (by omega : (0 : Int) ≤ -u i)
        have e : -u i * -u i = u i * u i := by grind
        omega
    omega
end
noncomputable def bndL (f : List (List Int)) (L : Int) : List Int := (List.range f.length).map fun i => bndV (L * detL f (butL f.length i)) (detL f (List.range f.length))
theorem bndL_len (f : List (List Int)) (L : Int) : (bndL f L).length = f.length := by simp [bndL]
theorem gi_bndL {f : List (List Int)} {L : Int} {i : Nat} (h : i < f.length) : gi (bndL f L) i = bndV (L * detL f (butL f.length i)) (detL f (List.range f.length)) := by
  rw [← gi_eq (by rw [bndL_len]; exact h)]; simp [bndL]
end Go.Gw

end
section
set_option maxRecDepth 8192
set_option linter.unusedSimpArgs false
set_option linter.unusedVariables false
namespace Go.Gw
open Go

theorem rFormErr_ok (f : List (List Int)) (hl : f.length < 1073741824) : ref02_FormErr_spec f = some (frmE f) := by
  unfold ref02_FormErr_spec
  have e1 : (decide ((f.length : Int) = 0)) = decide (f.length = 0) := len_dec _ 0
  have e2 : (decide (3 < (f.length : Int))) = decide (3 < f.length) := by rw [Bool.eq_iff_iff, decide_eq_true_iff, decide_eq_true_iff]; omega
  rw [e1, e2]
  unfold frmE
  by_cases h1 : f.length = 0
  · simp [h1]
  · by_cases h2 : 3 < f.length
    · simp [h1, h2]
    · have hsh : loop (ref02_FormErr_s0 f) 0 = some (oi (if f.any (badRow f) then some 10 else none)) := by
        rw [loop_fs f (fun _ r => if badRow f r then some (10 : Int) else none)]
        · have : ∀ (l : List (List Int)) t, fs (fun _ r => if badRow f r then some (10 : Int) else none) t l = if l.any (badRow f) then some 10 else none := by
            intro l
            induction l with
            | nil => intro t; rfl
            | cons y ys ih =>
              intro t
              cases hy : badRow f y with
              | true => simp [fs, hy]
              | false => simp [fs, hy]; simpa using ih (t + 1)
          rw [this]
        · intro k hk
          unfold ref02_FormErr_s0
          rw [lt_nat hk, cond_true, idx_nat hk, Option.bind_some, len_dec, w64n k (by omega)]
          show (bif badRow f f[k] then _ else _) = _
          cases badRow f f[k] <;> rfl
        · unfold ref02_FormErr_s0
          rw [lt_nat_no]; rfl
      rw [hsh]
      cases h3 : f.any (badRow f) with
      | true => simp [h1, h2, oi, jn0]
      | false =>
        have hq := sq_of h3
        have hloop : loop (ref02_FormErr_s2 f) 0 = some (oi (fs (frow f) 0 f)) := by
          refine loop_fs f _ (fun i hi => ?_) ?_
          · unfold ref02_FormErr_s2
            rw [lt_nat hi, cond_true]
            have hri : f[i].length = f.length := by rw [gr_eq hi]; exact hq.row i hi
            have hin : loop (ref02_FormErr_s1 f (i : Int)) 0 = some (oi ((frow f i f[i]).map fun r => (.inr (.inl r) : Int ⊕ (Int ⊕ Unit)))) := by
              rw [loop_fs f[i] (fun k x => (if smallB 10000 x then (if g2 f k i = x then none else some (3 : Int)) else some 2).map fun r => (.inr (.inl r) : Int ⊕ (Int ⊕ Unit)))]
              · rw [map_fs (fun r => (.inr (.inl r) : Int ⊕ (Int ⊕ Unit)))]; rfl
              · intro k hk
                have hkf : k < f.length := by omega
                have hki : i < (gr f k).length := by rw [hq.row k hkf]; exact hi
                unfold ref02_FormErr_s1
                rw [lt_nat hkf, cond_true, idx_nat hi, Option.bind_some, idx_nat hk, Option.bind_some, bwithin_ok, Option.bind_some, idx_gr hkf]
                simp only [Option.bind_some, idx_nat hk, idx_gi hki]
                rw [w64n k (by omega)]
                show (bif !smallB 10000 f[i][k] then _ else _) = fsS (Option.map _ (if smallB 10000 f[i][k] then (if g2 f k i = f[i][k] then none else some 3) else some 2)) k
                unfold g2
                generalize f[i][k] = a
                generalize gi (gr f k) i = b
                by_cases h5 : b = a
                · subst h5; cases smallB 10000 b <;> simp [fsS]
                · have h5' : ¬ a = b := fun e => h5 e.symm
                  cases smallB 10000 a <;> simp [h5, h5', fsS]
              · unfold ref02_FormErr_s1
                rw [hri, lt_nat_no]; rfl
            rw [hin, Option.bind_some, w64n i (by omega)]
            cases frow f i f[i] <;> rfl
          · unfold ref02_FormErr_s2
            rw [lt_nat_no]; rfl
        simp only [h1, h2, hloop, decide_false, cond_false, if_false, Option.bind_some, Bool.false_eq_true, oi, jn0]
        cases fs (frow f) 0 f <;> rfl
end Go.Gw

end
section
set_option maxRecDepth 8192
set_option linter.unusedSimpArgs false
set_option linter.unusedVariables false
namespace Go.Gw
open Go

theorem Runs.gd {α β : Type} {Q : α → Prop} [Inhabited β] {g : Bool} {e : Option β} {f : β → Option α} (ht : g = true → Runs (Option.bind e f) Q) (hf : g = false → Runs (f default) Q) : Runs (Option.bind (bif g then e else Option.some default) f) Q := by
  cases g
  · exact hf rfl
  · exact ht rfl
end Go.Gw

end
section
set_option maxRecDepth 8192
set_option linter.unusedSimpArgs false
set_option linter.unusedVariables false
namespace Go.Gw
open Go

theorem mk_ok {α : Type} {n : Nat} {z : α} (h : n ≤ 1048576) : mk (n : Int) z = some (List.replicate n z) := by
  unfold mk; rw [if_pos (by omega), Int.toNat_natCast]
theorem gi_rep {n k : Nat} : gi (List.replicate n 0) k = 0 := by
  unfold gi; rw [List.getD_eq_getElem?_getD, List.getElem?_replicate]; split <;> rfl
end Go.Gw

end
section
set_option maxRecDepth 8192
set_option linter.unusedSimpArgs false
set_option linter.unusedVariables false
namespace Go.Gw
open Go

theorem CopySamples_ok (l : List LevitateSample) (h : l.length ≤ 1000000) (hs : ∀ s ∈ l, s.Noise.length ≤ 1000000) : ref02_CopySamples_spec l = some l := by
  unfold ref02_CopySamples_spec
  rw [loop_map l id]
  · simp
  · intro k hk acc ha
    unfold ref02_CopySamples_s0
    dsimp only
    rw [lt_nat hk, cond_true, idx_nat hk, Option.bind_some, CopySample_ok _ (by have := hs _ (List.getElem_mem hk); omega), Option.bind_some, app_ok (by simp; omega), Option.bind_some, w64n k (by omega)]; rfl
  · intro acc
    unfold ref02_CopySamples_s0
    dsimp only
    rw [lt_nat_no]; rfl
theorem rnV_len {p : LevitatePlant} : ∀ {l : List LevitateSample} {x : List Int} {ys : List (List Int)}, rnV p x l = some ys → ys.length = l.length ∧ ∀ y ∈ ys, Stt p y
  | [], _, _, h => by cases h; exact ⟨rfl, fun _ h => by cases h⟩
  | s :: l, x, ys, h => by
    rw [rnV] at h
    split at h
    · rename_i hb
      cases h1 : rnV p (stepI p x s) l with
      | none => rw [h1] at h; cases h
      | some zs =>
        rw [h1] at h
        cases h
        have := rnV_len h1
        refine ⟨by simp [this.1], fun y hy => ?_⟩
        rcases List.mem_cons.1 hy with rfl | hy
        · exact stepI_stt.2 hb
        · exact this.2 y hy
    · cases h
end Go.Gw

end
section
set_option maxRecDepth 8192
set_option linter.unusedSimpArgs false
set_option linter.unusedVariables false
namespace Go.Gw
open Go

def mxS (a : Int) (l : List (List Int)) (i : Nat) : Int := l.foldl (fun m y => if m < ((gi y i).natAbs : Int) then ((gi y i).natAbs : Int) else m) a
theorem mxS_char : ∀ (l : List (List Int)) (a : Int) (i : Nat), a ≤ mxS a l i ∧ (∀ y ∈ l, ((gi y i).natAbs : Int) ≤ mxS a l i) ∧ (mxS a l i = a ∨ ∃ y ∈ l, mxS a l i = ((gi y i).natAbs : Int))
  | [], a, i => ⟨Int.le_refl _, (fun _ h => nomatch h), .inl rfl⟩
  | y :: l, a, i => by
    have e : mxS a (y :: l) i = mxS (if a < ((gi y i).natAbs : Int) then ((gi y i).natAbs : Int) else a) l i := rfl
    obtain ⟨h1, h2, h3⟩ := mxS_char l (if a < ((gi y i).natAbs : Int) then ((gi y i).natAbs : Int) else a) i
    rw [← e] at h1 h2 h3
    by_cases hlt : a < ((gi y i).natAbs : Int)
    · rw [if_pos hlt] at h1 h3
      refine ⟨by omega, fun z hz => ?_, .inr ?_⟩
      · rcases List.mem_cons.1 hz with rfl | hz
        · exact h1
        · exact h2 z hz
      · rcases h3 with h3 | ⟨z, hz, h3⟩
        · exact ⟨y, by simp, h3⟩
        · exact ⟨z, by simp [hz], h3⟩
    · rw [if_neg hlt] at h1 h3
      refine ⟨h1, fun z hz => ?_, ?_⟩
      · rcases List.mem_cons.1 hz with rfl | hz
        · omega
        · exact h2 z hz
      · rcases h3 with h3 | ⟨z, hz, h3⟩
        · exact .inl h3
        · exact .inr ⟨z, by simp [hz], h3⟩
def mxL (n : Nat) (a : List Int) (y : List Int) : List Int := tab n fun i => if gi a i < ((gi y i).natAbs : Int) then ((gi y i).natAbs : Int) else gi a i
theorem exc_in {n : Nat} {a y : List Int} (ha : a.length = n) (hy : y.length = n) (hn : n < 1000000) (hb : ∀ i, i < n → -4000000000000000000 ≤ gi y i ∧ gi y i ≤ 4000000000000000000) : loop (levitate_Excursion_s0 y) (a, 0) = some (mxL n a y) := by
  have key : ∀ j k (b : List Int), j + k = n → b.length = n → (∀ i, i < n → gi b i = if i < k then (if gi a i < ((gi y i).natAbs : Int) then ((gi y i).natAbs : Int) else gi a i) else gi a i) → loop (levitate_Excursion_s0 y) (b, (k : Int)) = some (mxL n a y) := by
    intro j
    induction j with
    | zero =>
      intro k b hk hb' hg
      obtain rfl : k = n := by omega
      have e : b = mxL k a y := list_ext_gi (by simp [mxL, tab_len, hb']) fun i hi => by unfold mxL; rw [gi_tab (show i < k by omega), hg i (by omega), if_pos (show i < k by omega)]
      refine loop_inr ?_
      unfold levitate_Excursion_s0
      dsimp only
      rw [hy, lt_nat_no, ← e]; rfl
    | succ j ih =>
      intro k b hk hb' hg
      have hlt : k < n := by omega
      have st : levitate_Excursion_s0 y (b, (k : Int)) = some (.inl (b.set k (if gi a k < ((gi y k).natAbs : Int) then ((gi y k).natAbs : Int) else gi a k), ((k + 1 : Nat) : Int))) := by
        unfold levitate_Excursion_s0
        dsimp only
        rw [hy, lt_nat hlt, cond_true, idx_gi (by omega), Option.bind_some, idx_gi (by omega), Option.bind_some, lsize_ok (by have := hb k hlt; omega), Option.bind_some, Option.bind_some, w64n k (by omega), hg k hlt, if_neg (Nat.lt_irrefl k), Int.toNat_natCast]
      rw [loop_inl st]
      refine ih (k + 1) _ (by omega) (by simp [hb']) fun i hi => ?_
      rw [gi_set (by omega)]
      by_cases hik : k = i
      · subst hik; rw [if_pos rfl, if_pos (Nat.lt_succ_self k)]
      · rw [if_neg hik, hg i hi]
        by_cases hi2 : i < k
        · rw [if_pos hi2, if_pos (show i < k + 1 by omega)]
        · rw [if_neg hi2, if_neg (show ¬ i < k + 1 by omega)]
  exact key n 0 a (by omega) ha fun i hi => by rw [if_neg (Nat.not_lt_zero i)]
theorem exc_out {n : Nat} {zs : List (List Int)} (hz : ∀ y ∈ zs, y.length = n ∧ ∀ i, i < n → -4000000000000000000 ≤ gi y i ∧ gi y i ≤ 4000000000000000000) (hn : n < 1000000) (hl : zs.length < 1000000) :
    loop (levitate_Excursion_s1 zs) (List.replicate n 0, 0) = some (tab n fun i => mxS 0 zs i) := by
  have h := loop_fld (step := levitate_Excursion_s1 zs) zs (fun _ a y => mxL n a y) (fun a k => (a, (k : Int))) (fun a => a) (fun a k => a.length = n) (List.replicate n 0) (by simp) (fun k hk a ha => by
    have hy := hz _ (List.getElem_mem hk)
    refine ⟨?_, tab_len _ _⟩
    unfold levitate_Excursion_s1
    dsimp only
    rw [lt_nat hk, cond_true, idx_nat hk, Option.bind_some, exc_in ha hy.1 hn hy.2, Option.bind_some, w64n k (by omega)]) (fun a ha => by
    unfold levitate_Excursion_s1
    dsimp only
    rw [lt_nat_no]; rfl)
  have h1 := h.1
  change loop (levitate_Excursion_s1 zs) (List.replicate n 0, 0) = _ at h1
  rw [h1]
  have gen : ∀ (l : List (List Int)) (k : Nat) (a : List Int), a.length = n → fld (fun _ a y => mxL n a y) k a l = tab n fun i => mxS (gi a i) l i := by
    intro l
    induction l with
    | nil => intro k a ha; exact list_ext_gi (by rw [tab_len]; exact ha) fun i hi => by rw [gi_tab (by have : (fld (fun _ a y => mxL n a y) k a []).length = n := ha; omega)]; rfl
    | cons y l ih =>
      intro k a ha
      show fld (fun _ a y => mxL n a y) (k + 1) (mxL n a y) l = _
      rw [ih _ _ (by simp [mxL, tab_len])]
      refine list_ext_gi (by rw [tab_len, tab_len]) fun i hi => ?_
      rw [tab_len] at hi
      rw [gi_tab hi, gi_tab hi]
      unfold mxL
      rw [gi_tab hi]; rfl
  rw [gen zs 0 _ (by simp)]
  congr 1
  refine list_ext_gi (by rw [tab_len, tab_len]) fun i hi => ?_
  rw [tab_len] at hi
  rw [gi_tab hi, gi_tab hi, gi_rep]
def excR (p : LevitatePlant) (x : List Int) (l : List LevitateSample) : List Int × Int := if (runR p x l).2 = 0 then (tab x.length fun i => mxS 0 ((runR p x l).1 ++ [x]) i, 0) else ([], (runR p x l).2)
theorem runR_zero {p : LevitatePlant} {x : List Int} {l : List LevitateSample} (h : (runR p x l).2 = 0) : Rp p ∧ Stt p x ∧ l.length ≤ 60 ∧ (∀ s ∈ l, Sm p s) ∧ ∃ ys, rnV p x l = some ys ∧ runR p x l = (ys, 0) := by
  unfold runR at h ⊢
  by_cases h0 : opR p x l = 0
  · rw [if_pos h0] at h ⊢
    have h1 := h0
    unfold opR at h1
    by_cases a1 : (ckP p).2 = 0
    · by_cases a2 : stE p x = 0
      · by_cases a3 : l.length ≤ 60
        · simp only [a1, a2, a3, ne_eq, not_true_eq_false, if_false, if_true] at h1
          refine ⟨ckP_right.1 a1, stE_right.1 a2, a3, smsE_right.1 (by first | exact h1 | (simpa using h1) | (split at h1 <;> first | omega | exact h1)), ?_⟩
          cases hr : rnV p x l with
          | some ys => exact ⟨ys, rfl, rfl⟩
          | none => rw [hr] at h; cases h
        · exfalso; simp [a1, a2, a3] at h1 <;> omega
      · exfalso; simp [a1, a2] at h1
    · exfalso; simp [a1] at h1
  · rw [if_neg h0] at h; exact absurd h h0
theorem lExc_ok {p : LevitatePlant} (h : Sh p) {x : List Int} (hx : x.length < 1000) {l : List LevitateSample} (hl : l.length < 1000) (hs : ∀ s ∈ l, s.Noise.length < 1073741824) : levitate_Excursion_spec p x l = some (excR p x l) := by
  unfold levitate_Excursion_spec excR
  rw [RunOf_ok h (by omega) (by omega) hs, Option.bind_some]
  by_cases h0 : (runR p x l).2 = 0
  · obtain ⟨hp, hst, h60, hsm, ys, hy, he⟩ := runR_zero h0
    have hyl := rnV_len hy
    have hxl := hst.len
    rw [he]
    simp only [decide_true, Bool.not_true, cond_false, if_true]
    rw [mk_ok (by omega), Option.bind_some, app_ok (by simp; omega), Option.bind_some, exc_out (n := x.length)]
    · rfl
    · intro y hy'
      rcases List.mem_append.1 hy' with hy' | hy'
      · have := hyl.2 y hy'
        exact ⟨by rw [this.len, hxl], fun i hi => by have := this.bd i (by omega); omega⟩
      · rcases List.mem_singleton.1 hy' with rfl
        exact ⟨rfl, fun i hi => by have := hst.bd i (by omega); omega⟩
    · omega
    · simp; omega
  · simp [h0]
end Go.Gw

end
section
set_option maxRecDepth 8192
set_option linter.unusedSimpArgs false
set_option linter.unusedVariables false
namespace Go.Gw
open Go

theorem dot_reach {p : LevitatePlant} {m i : Nat} {x box : List Int} (hx : ∀ k, k < p.Noise.length → -gi box k ≤ gi x k ∧ gi x k ≤ gi box k) : -reach p m i box ≤ dotP p m i x ∧ dotP p m i x ≤ reach p m i box := by
  have ht : ∀ k, k < p.Noise.length → -(((ge p m i k).natAbs : Int) * gi box k) ≤ ge p m i k * gi x k ∧ ge p m i k * gi x k ≤ ((ge p m i k).natAbs : Int) * gi box k := fun k hk => by
    have h1 := hx k hk
    exact abs_mul (A := ((ge p m i k).natAbs : Int)) (by omega) h1
  have gen : ∀ n, n ≤ p.Noise.length → -sumN (fun k => ((ge p m i k).natAbs : Int) * gi box k) n ≤ sumN (fun k => ge p m i k * gi x k) n ∧ sumN (fun k => ge p m i k * gi x k) n ≤ sumN (fun k => ((ge p m i k).natAbs : Int) * gi box k) n := by
    intro n
    induction n with
    | zero => intro _; simp [sumN]
    | succ n ih =>
      intro hn
      have h1 := ih (by omega)
      have h2 := ht n (by omega)
      simp only [sumN]
      omega
  exact gen _ (Nat.le_refl _)
theorem step_in {p : LevitatePlant} (h : Rp p) {box x : List Int} (hk : Kept p box) (hx : ∀ k, k < p.Noise.length → -gi box k ≤ gi x k ∧ gi x k ≤ gi box k) {s : LevitateSample} (hs : Sm p s) : ∀ k, k < p.Noise.length → -gi box k ≤ gi (stepI p x s) k ∧ gi (stepI p x s) k ≤ gi box k := by
  intro i hi
  have hm : s.Map.toNat < p.Maps.length := by have := hs.m0; have := hs.m1; omega
  have h1 := dot_reach (p := p) (m := s.Map.toNat) (i := i) hx
  have h2 := hk _ hm i hi
  have h3 := hs.nz i hi
  have hd := h.den
  unfold stepI
  rw [gi_tab hi]
  unfold needI at h2
  have h4 : dotP p s.Map.toNat i x / p.Den ≤ reach p s.Map.toNat i box / p.Den := Int.ediv_le_ediv (by omega) h1.2
  have h5 : -reach p s.Map.toNat i box / p.Den ≤ dotP p s.Map.toNat i x / p.Den := Int.ediv_le_ediv (by omega) h1.1
  have h6 := neg_ceil (n := -reach p s.Map.toNat i box) hd.1
  rw [Int.neg_neg] at h6
  have h7 : reach p s.Map.toNat i box / p.Den ≤ (reach p s.Map.toNat i box + p.Den - 1) / p.Den := Int.ediv_le_ediv (by omega) (by omega)
  omega
theorem run_in {p : LevitatePlant} (h : Rp p) {box : List Int} (hb : Bx p box) (hk : Kept p box) : ∀ {l : List LevitateSample} {x : List Int}, (∀ s ∈ l, Sm p s) → (∀ k, k < p.Noise.length → -gi box k ≤ gi x k ∧ gi x k ≤ gi box k) →
    ∃ ys, rnV p x l = some ys ∧ ∀ y ∈ ys, y.length = p.Noise.length ∧ ∀ k, k < p.Noise.length → -gi box k ≤ gi y k ∧ gi y k ≤ gi box k
  | [], x, _, _ => ⟨[], rfl, fun _ h => by cases h⟩
  | s :: l, x, hs, hx => by
    have h1 := step_in h hk hx (hs s (by simp))
    have h2 : (stepI p x s).all (smallB 100000) = true := (all_small (stepI_len p x s)).2 fun k hk' => by
      have := h1 k hk'; have := hb.rng k hk'; omega
    obtain ⟨ys, hy, hi⟩ := run_in h hb hk (l := l) (fun s hs' => hs s (by simp [hs'])) h1
    refine ⟨stepI p x s :: ys, by rw [rnV, if_pos h2, hy]; rfl, fun y hy' => ?_⟩
    rcases List.mem_cons.1 hy' with rfl | hy'
    · exact ⟨stepI_len _ _ _, h1⟩
    · exact hi y hy'
theorem rSampleErr_any {p : LevitatePlant} (h : Rp p) (s : LevitateSample) : ref02_SampleErr_spec p s = some (smE p s) := by
  by_cases hs : s.Noise.length < 1073741824
  · exact rSampleErr_ok h hs
  · have hne : s.Noise.length ≠ p.Noise.length := by have := h.n3; omega
    have hm1 := h.m1
    have hm4 := h.m4
    unfold ref02_SampleErr_spec
    rw [w64_id (by omega)]
    simp only [bwithin_ok, Option.bind_some, len_dec]
    unfold smE
    by_cases h1 : 0 ≤ s.Map ∧ s.Map < p.Maps.length
    · have e1 : (decide (0 ≤ s.Map) && decide (s.Map ≤ (p.Maps.length : Int) - 1)) = true := by simp; omega
      rw [if_pos h1, e1, if_neg hne, decide_eq_false hne]; rfl
    · have e1 : (decide (0 ≤ s.Map) && decide (s.Map ≤ (p.Maps.length : Int) - 1)) = false := by simp; omega
      rw [if_neg h1, e1]; rfl
theorem rSamplesErr_any {p : LevitatePlant} (h : Rp p) {l : List LevitateSample} (hl : l.length ≤ 60) : ref02_SamplesErr_spec p l = some (smsE p l) := by
  unfold ref02_SamplesErr_spec
  rw [decide_eq_false (by omega), cond_false, loop_fs l (fun _ s => if smE p s = 0 then none else some (smE p s)), Option.bind_some]
  · unfold smsE smsF
    cases fs (fun _ s => if smE p s = 0 then none else some (smE p s)) 0 l <;> rfl
  · intro k hk
    unfold ref02_SamplesErr_s0
    rw [lt_nat hk, idx_nat hk, w64n k (by omega), cond_true, Option.bind_some, rSampleErr_any h, Option.bind_some]
    by_cases h2 : smE p l[k] = 0 <;> simp [h2, fsS]
  · unfold ref02_SamplesErr_s0
    rw [lt_nat_no]; rfl
end Go.Gw

end
