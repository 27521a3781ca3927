/- Laws of the walk. Condition: each theorem says its own. -/
import Derived.Test.YtglaeocolbnpdaaGreatGwPl2
section
set_option maxRecDepth 4096
set_option linter.unusedSimpArgs false
set_option linter.unusedVariables false
namespace Go.Gw
open Go

/-! ### What a map takes from a form -/
def imI (p : LevitatePlant) (m : Nat) (f : List (List Int)) (i k : Nat) : Int := sumN (fun a => ge p m a i * sumN (fun b => g2 f a b * ge p m b k) p.Noise.length) p.Noise.length
def dI (p : LevitatePlant) (m : Nat) (f : List (List Int)) (r : Arr2_Int) (i k : Nat) : Int := r.e0 * p.Den * p.Den * g2 f i k - r.e1 * imI p m f i k
def dM (p : LevitatePlant) (m : Nat) (f : List (List Int)) (r : Arr2_Int) : List (List Int) := tab2 p.Noise.length (dI p m f r)
structure Rr (r : Arr2_Int) : Prop where
  e1 : 1 ≤ r.e1 ∧ r.e1 ≤ 1000
  e0 : 0 ≤ r.e0 ∧ r.e0 ≤ r.e1
theorem imI_b {p : LevitatePlant} (h : Rp p) {m : Nat} (hm : m < p.Maps.length) {f : List (List Int)} (hb : Bd p.Noise.length f 10000) {i k : Nat} (hi : i < p.Noise.length) (hk : k < p.Noise.length) : -90000000000 ≤ imI p m f i k ∧ imI p m f i k ≤ 90000000000 := by
  have := sumN_abs3 (t := fun a => ge p m a i * sumN (fun b => g2 f a b * ge p m b k) p.Noise.length) (B := 1000 * (3 * (10000 * 1000))) h.n3 (by decide) fun a ha => abs_mul (h.ge_b hm ha hi) (sumN_abs3 h.n3 (by decide) fun b hb' => abs_mul (hb a b ha hb') (h.ge_b hm hb' hk))
  unfold imI; omega
theorem rdd {p : LevitatePlant} (h : Rp p) {r : Arr2_Int} (hr : Rr r) : -1000000 ≤ r.e0 * p.Den ∧ r.e0 * p.Den ≤ 1000000 ∧ -1000000000 ≤ r.e0 * p.Den * p.Den ∧ r.e0 * p.Den * p.Den ≤ 1000000000 := by
  have hd := h.den
  have h0 := hr.e0; have h1 := hr.e1
  have a1 := abs_mul (a := r.e0) (b := p.Den) (A := 1000) (B := 1000) (by omega) (by omega)
  have a2 := abs_mul (a := r.e0 * p.Den) (b := p.Den) (A := 1000000) (B := 1000) (by omega) (by omega)
  omega
theorem dI_b {p : LevitatePlant} (h : Rp p) {m : Nat} (hm : m < p.Maps.length) {f : List (List Int)} (hb : Bd p.Noise.length f 10000) {r : Arr2_Int} (hr : Rr r) {i k : Nat} (hi : i < p.Noise.length) (hk : k < p.Noise.length) :
    (-10000000000000 ≤ r.e0 * p.Den * p.Den * g2 f i k ∧ r.e0 * p.Den * p.Den * g2 f i k ≤ 10000000000000) ∧ (-90000000000000 ≤ r.e1 * imI p m f i k ∧ r.e1 * imI p m f i k ≤ 90000000000000) := by
  have hx := rdd h hr
  have a3 := abs_mul (a := r.e0 * p.Den * p.Den) (A := 1000000000) (by omega) (hb i k hi hk)
  have a4 := abs_mul (a := r.e1) (A := 1000) (by have := hr.e1; omega) (imI_b h hm hb hi hk)
  omega
theorem col_ok {p : LevitatePlant} (h : Rp p) {m : Nat} (hm : m < p.Maps.length) {k : Nat} (hk : k < p.Noise.length) : levitate_plant_lessens_1_spec (k : Int) (gm p m) = some (tab p.Noise.length fun a => ge p m a k) := by
  unfold levitate_plant_lessens_1_spec
  have hl := h.sq _ (gm_mem hm)
  have h3 := h.n3
  have : loop (levitate_plant_lessens_1_s0 (gm p m) (k : Int)) ([], 0) = some (tab p.Noise.length fun a => ge p m a k) := by
    refine loop_list p.Noise.length (fun a => ge p m a k) (fun a ha acc hacc => ?_) (fun acc => ?_)
    · unfold levitate_plant_lessens_1_s0
      dsimp only
      rw [hl, lt_nat ha, cond_true, idx_gr (by rw [hl]; exact ha), Option.bind_some, idx_gi (by rw [h.row_len hm ha]; exact hk), Option.bind_some, app_ok (by simp [hacc]; omega), Option.bind_some, w64n a (by omega)]; rfl
    · unfold levitate_plant_lessens_1_s0
      dsimp only
      rw [hl, lt_nat_no]; rfl
  rw [this]; rfl
theorem lessens_ok {p : LevitatePlant} (h : Rp p) {m : Nat} (hm : m < p.Maps.length) {f : List (List Int)} (hf : Sq p.Noise.length f) (hb : Bd p.Noise.length f 10000) {r : Arr2_Int} (hr : Rr r) :
    levitate_plant_lessens_spec ⟨p⟩ (m : Int) f r = some (nevB p.Noise.length (dM p m f r)) := by
  unfold levitate_plant_lessens_spec
  have h3 := h.n3
  rw [idx_gm hm, Option.bind_some]
  have hx := rdd h hr
  have him : ∀ i k, i < p.Noise.length → k < p.Noise.length → loop (levitate_plant_lessens_s0 (gm p m) f (i : Int) (k : Int)) (0, 0) = some (imI p m f i k) := by
    intro i k hi hk
    rw [loop_sum p.Noise.length (fun a => ge p m a i * sumN (fun b => g2 f a b * ge p m b k) p.Noise.length)]
    · have := imI_b h hm hb hi hk
      rw [w64_id (by unfold imI at this; omega)]; rfl
    · intro a ha acc
      unfold levitate_plant_lessens_s0
      dsimp only
      rw [hf.len, lt_nat ha, cond_true, idx_gr (by rw [hf.len]; exact ha), Option.bind_some, col_ok h hm hi, Option.bind_some, idx_gi (by rw [tab_len]; exact ha), Option.bind_some, col_ok h hm hk, Option.bind_some,
        dot_ok (by rw [hf.row a ha, tab_len]; omega) (by rw [hf.row a ha]; omega), Option.bind_some, w64_add', hf.row a ha, gi_tab ha, w64n a (by omega)]
      congr 3
      rw [← w64_add', w64_mul', w64_add']
      congr 3
      exact sumN_congr fun b hb' => by rw [gi_tab hb']; rfl
    · intro acc
      unfold levitate_plant_lessens_s0
      dsimp only
      rw [hf.len, lt_nat_no]; rfl
  have hd : loop (levitate_plant_lessens_s2 (gm p m) ⟨p⟩ r f) ([], 0) = some (dM p m f r) := by
    refine loop_list p.Noise.length (fun i => tab p.Noise.length (dI p m f r i)) (fun i hi acc hacc => ?_) (fun acc => ?_)
    · unfold levitate_plant_lessens_s2
      dsimp only
      rw [hf.len, lt_nat hi, cond_true, idx_gr (by rw [hf.len]; exact hi), Option.bind_some]
      have hrow : loop (levitate_plant_lessens_s1 (gm p m) (gr f i) ⟨p⟩ r f (i : Int)) ([], 0) = some (tab p.Noise.length (dI p m f r i)) := by
        refine loop_list p.Noise.length (dI p m f r i) (fun k hk acc2 hacc2 => ?_) (fun acc2 => ?_)
        · unfold levitate_plant_lessens_s1
          dsimp only
          have hb2 := dI_b h hm hb hr hi hk
          rw [hf.row i hi, lt_nat hk, cond_true, idx_gi (by rw [hf.row i hi]; exact hk), Option.bind_some, him i k hi hk, Option.bind_some]
          rw [w64_id (x := r.e0 * p.Den) (by omega), w64_id (x := r.e0 * p.Den * p.Den) (by omega)]
          change Option.bind (app acc2 [w64 (w64 (r.e0 * p.Den * p.Den * g2 f i k) - w64 (r.e1 * imI p m f i k))]) _ = _
          rw [w64_id (x := r.e0 * p.Den * p.Den * g2 f i k) (by omega), w64_id (x := r.e1 * imI p m f i k) (by omega), w64_id (by omega), app_ok (by simp [hacc2]; omega), Option.bind_some, w64n k (by omega)]; rfl
        · unfold levitate_plant_lessens_s1
          dsimp only
          rw [hf.row i hi, lt_nat_no]; rfl
      rw [hrow, Option.bind_some, app_ok (by simp [hacc]; omega), Option.bind_some, w64n i (by omega)]
    · unfold levitate_plant_lessens_s2
      dsimp only
      rw [hf.len, lt_nat_no]; rfl
  rw [hd, Option.bind_some, never_ok (d := dM p m f r) h.n1 h3 (sq_tab2 _ _) (fun i k hi hk => by
    unfold dM; rw [g2_tab2 hi hk]
    have := dI_b h hm hb hr hi hk
    unfold dI; omega)]; rfl

/-! ### What proves -/
def rateB (r : Arr2_Int) : Bool := (decide (1 ≤ r.e1) && decide (r.e1 ≤ 1000)) && (decide (0 ≤ r.e0) && decide (r.e0 ≤ r.e1))
theorem rateB_iff {r : Arr2_Int} : rateB r = true ↔ Rr r := by
  unfold rateB
  simp only [Bool.and_eq_true, decide_eq_true_eq]
  exact ⟨fun h => ⟨h.1, h.2⟩, fun h => ⟨h.e1, h.e0⟩⟩
def lsM (p : LevitatePlant) (f : List (List Int)) (r : Arr2_Int) : Option Nat := fs (fun m _ => if nevB p.Noise.length (dM p m f r) then none else some m) 0 p.Maps
def pvV (p : LevitatePlant) (f : List (List Int)) (r : Arr2_Int) : Int × Int :=
  if rateB r then (if posB f then (match lsM p f r with | some m => ((m : Int), 24) | none => (0, 0)) else (0, 20)) else (0, 2)
theorem openForm_ok (p : LevitatePlant) (f : List (List Int)) (h : Sh p) (hl : f.length < 1073741824) : levitate_openForm_spec p f = some (⟨p⟩, if (ckP p).2 = 0 then (if frmE f = 0 then (if f.length = p.Noise.length then 0 else 13) else frmE f) else (ckP p).2) := by
  unfold levitate_openForm_spec
  simp only [lopen_ok p h, Option.bind_some, lformErr_ok f hl, lunless_ok, first3, len_dec]
  by_cases h1 : (ckP p).2 = 0 <;> by_cases h2 : frmE f = 0 <;> by_cases h3 : f.length = p.Noise.length <;> simp [h1, h2, h3]
theorem proves_ok {p : LevitatePlant} (h : Rp p) {f : List (List Int)} (hf : Rf f) (hn : f.length = p.Noise.length) (r : Arr2_Int) : levitate_proves_spec p f r = some (⟨p⟩, pvV p f r) := by
  unfold levitate_proves_spec
  have h3 := h.n3
  have hsq : Sq p.Noise.length f := by rw [← hn]; exact hf.sq
  have hbd : Bd p.Noise.length f 10000 := by rw [← hn]; exact hf.bd
  rw [openForm_ok p f h.sh (by omega)]
  simp only [Option.bind_some, h.ck, frmE_right.2 hf, hn, if_true, lwithin_ok]
  have e : ∀ b c : Bool, (bif b then some c else some default) = some (b && c) := by intro b c; cases b <;> rfl
  simp only [e, Option.bind_some, lunless_ok, first2, if_true]
  have e2 : ((decide (1 ≤ r.e1) && decide (r.e1 ≤ 1000)) && ((decide (1 ≤ r.e1) && decide (r.e1 ≤ 1000)) && (decide (0 ≤ r.e0) && decide (r.e0 ≤ r.e1)))) = rateB r := by
    unfold rateB; cases (decide (1 ≤ r.e1) && decide (r.e1 ≤ 1000)) <;> rfl
  rw [e2]
  unfold pvV
  cases hr : rateB r with
  | false => simp
  | true =>
    have hrr := rateB_iff.1 hr
    have hp := positive_ok hf.sq hf.n3 (hf.bd.mono (by decide))
    simp only [cond_true, decide_true, hp, Option.bind_some, lunless_ok, if_true]
    cases hpos : posB f with
    | false => simp
    | true =>
      have hloop : loop (levitate_proves_s0 f p r (⟨p⟩, 0)) 0 = some (oi ((lsM p f r).map fun m : Nat => ((⟨p⟩, (m : Int), 24) : levitate_plant × Int × Int))) := by
        rw [loop_fs p.Maps (fun m _ => (if nevB p.Noise.length (dM p m f r) then none else some m).map fun m : Nat => ((⟨p⟩, (m : Int), 24) : levitate_plant × Int × Int))]
        · rw [map_fs (fun m : Nat => ((⟨p⟩, (m : Int), 24) : levitate_plant × Int × Int)) (fun m _ => if nevB p.Noise.length (dM p m f r) then none else some m)]; rfl
        · intro m hm
          unfold levitate_proves_s0
          rw [lt_nat hm, cond_true]
          change Option.bind (levitate_plant_lessens_spec ⟨p⟩ (m : Int) f r) _ = _
          rw [lessens_ok h hm hsq hbd hrr, Option.bind_some, w64n m (by have := h.m4; omega)]
          cases nevB p.Noise.length (dM p m f r) <;> rfl
        · unfold levitate_proves_s0
          rw [lt_nat_no]; rfl
      simp only [cond_true, decide_true, Bool.not_true, cond_false, if_true]
      rw [hloop]
      cases lsM p f r <;> rfl

/-! ### Levels -/
def kptB (level worst : Int) (r : Arr2_Int) : Bool :=
  decide (0 ≤ (r.e1 - r.e0) * level - r.e1 * worst) && decide (4 * r.e0 * r.e1 * level * worst ≤ ((r.e1 - r.e0) * level - r.e1 * worst) * ((r.e1 - r.e0) * level - r.e1 * worst))
theorem kept_ok {level worst : Int} {r : Arr2_Int} (hr : Rr r) (hl : 0 ≤ level ∧ level ≤ 100000000000000) (hw : -9002000000000000 ≤ worst ∧ worst ≤ 9002000000000000) : levitate_kept_spec level worst r = some (kptB level worst r) := by
  unfold levitate_kept_spec
  have h0 := hr.e0; have h1 := hr.e1
  have a1 := abs_mul (a := r.e1 - r.e0) (b := level) (A := 1000) (B := 100000000000000) (by omega) (by omega)
  have a2 := abs_mul (a := r.e1) (b := worst) (A := 1000) (B := 9002000000000000) (by omega) (by omega)
  have a3 := abs_mul (a := 4 * r.e0) (b := r.e1) (A := 4000) (B := 1000) (by omega) (by omega)
  have a4 := abs_mul (a := 4 * r.e0 * r.e1) (b := level) (A := 4000000) (B := 100000000000000) (by omega) (by omega)
  have a5 := abs_mul (a := 4 * r.e0 * r.e1 * level) (b := worst) (A := 400000000000000000000) (B := 9002000000000000) (by omega) (by omega)
  rw [w64_id (x := r.e1 - r.e0) (by omega), wideOf_ok (by omega), Option.bind_some, wideOf_ok (n := level) (by omega), Option.bind_some, times_ok, Option.bind_some, wideOf_ok (n := r.e1) (by omega), Option.bind_some, wideOf_ok (n := worst) (by omega), Option.bind_some, times_ok, Option.bind_some, less_ok, Option.bind_some]
  rw [w64_id (x := 4 * r.e0) (by omega), w64_id (x := 4 * r.e0 * r.e1) (by omega), wideOf_ok (n := 4 * r.e0 * r.e1) (by omega)]
  generalize hA : (r.e1 - r.e0) * level - r.e1 * worst = A
  have hA1 : -10000000000000000000 ≤ A ∧ A ≤ 10000000000000000000 := by omega
  have a6 := abs_mul hA1 hA1
  simp only [below_int (x := A) (by omega), Option.bind_some, wideOf_ok (n := level) (show -9223372036854775808 ≤ level ∧ level ≤ 9223372036854775807 by omega), wideOf_ok (n := worst) (show -9223372036854775808 ≤ worst ∧ worst ≤ 9223372036854775807 by omega), times_ok, less_ok]
  rw [below_int (by omega)]
  unfold kptB
  rw [hA]
  generalize 4 * r.e0 * r.e1 * level * worst = B
  generalize A * A = C
  by_cases h4 : A < 0
  · have : ¬ 0 ≤ A := by omega
    simp [h4, this]
  · have : 0 ≤ A := by omega
    by_cases h5 : C - B < 0
    · have : ¬ B ≤ C := by omega
      simp [h4, *]
    · have : B ≤ C := by omega
      simp [h4, *]

/-! ### The least number -/
theorem least_run {step : (Int × Int) → Option ((Int × Int) ⊕ Int)} (P : Int → Bool) (most : Int) (h0 : 0 ≤ most) (hm : most ≤ 1000000000000000)
    (hs : ∀ lo hi, -1 ≤ lo → lo < hi → hi ≤ most + 1 → 1 < hi - lo → step (lo, hi) = some (.inl (if P (lo + (hi - lo) / 2) then (lo, lo + (hi - lo) / 2) else (lo + (hi - lo) / 2, hi))))
    (he : ∀ lo hi, -1 ≤ lo → lo < hi → hi ≤ most + 1 → ¬ 1 < hi - lo → step (lo, hi) = some (.inr hi)) :
    Runs (loop step (-1, w64 (most + 1))) fun hi => 0 ≤ hi ∧ hi ≤ most + 1 ∧ (hi ≤ most → P hi = true) ∧ (0 < hi → P (hi - 1) = false) := by
  rw [w64_id (by omega)]
  refine Runs.loop (fun s => -1 ≤ s.1 ∧ s.1 < s.2 ∧ s.2 ≤ most + 1 ∧ (s.2 ≤ most → P s.2 = true) ∧ (0 ≤ s.1 → P s.1 = false)) (fun s => (s.2 - s.1).toNat) ⟨by omega, by show (-1 : Int) < most + 1; omega, by show most + 1 ≤ most + 1; omega, fun h => by exfalso; change most + 1 ≤ most at h; omega, fun h => by exfalso; change (0 : Int) ≤ -1 at h; omega⟩ ?_
  rintro ⟨lo, hi⟩ ⟨h1, h2, h3, h4, h5⟩
  dsimp only at h1 h2 h3 h4 h5
  by_cases hd : 1 < hi - lo
  · rw [hs lo hi h1 h2 h3 hd]
    refine Runs.some ?_
    cases hp : P (lo + (hi - lo) / 2) with
    | true =>
      rw [if_pos rfl]
      refine ⟨⟨h1, by dsimp only; omega, by dsimp only; omega, fun _ => hp, h5⟩, ?_⟩
      dsimp only; omega
    | false =>
      rw [if_neg (by simp)]
      refine ⟨⟨by dsimp only; omega, by dsimp only; omega, h3, h4, fun _ => hp⟩, ?_⟩
      dsimp only; omega
  · rw [he lo hi h1 h2 h3 hd]
    refine Runs.some ⟨by omega, h3, h4, fun h => ?_⟩
    have : hi - 1 = lo := by omega
    rw [this]; exact h5 (by omega)
theorem mid_ok {lo hi most : Int} (h1 : -1 ≤ lo) (h2 : lo < hi) (h3 : hi ≤ most + 1) (hm : most ≤ 1000000000000000) : w64 (hi - lo) = hi - lo ∧ w64 (lo + (w64 (Int.tdiv (hi - lo) 2))) = lo + (hi - lo) / 2 := by
  have e1 : w64 (hi - lo) = hi - lo := w64_id (by omega)
  have e2 : Int.tdiv (hi - lo) 2 = (hi - lo) / 2 := Int.tdiv_eq_ediv_of_nonneg (by omega)
  refine ⟨e1, ?_⟩
  rw [e2, w64_id (x := (hi - lo) / 2) (by omega), w64_id (by omega)]
theorem least61_run {worst : Int} {r : Arr2_Int} (hr : Rr r) (hw : -9002000000000000 ≤ worst ∧ worst ≤ 9002000000000000) : Runs (levitate_least_83_spec 100000000000000 worst r) fun q => 0 ≤ q.1 ∧ q.1 ≤ 100000000000001 ∧ (q.1 ≤ 100000000000000 → kptB q.1 worst r = true) ∧ (0 < q.1 → kptB (q.1 - 1) worst r = false) ∧ q.2 = decide (q.1 ≤ 100000000000000) := by
  unfold levitate_least_83_spec
  refine Runs.callR (least_run (fun n => kptB n worst r) 100000000000000 (by decide) (by decide) (fun lo hi h1 h2 h3 hd => ?_) (fun lo hi h1 h2 h3 hd => ?_)) fun hi hh => Runs.some ⟨hh.1, hh.2.1, hh.2.2.1, hh.2.2.2, rfl⟩
  · unfold levitate_least_83_s0
    dsimp only
    have hm := mid_ok h1 h2 h3 (by decide)
    rw [hm.1, hm.2, decide_eq_true hd, cond_true]
    unfold levitate_LeastLevel_1_spec
    rw [kept_ok hr (by omega) hw, Option.bind_some, Option.bind_some]
    cases kptB (lo + (hi - lo) / 2) worst r <;> rfl
  · unfold levitate_least_83_s0
    dsimp only
    have hm := mid_ok h1 h2 h3 (by decide)
    rw [hm.1, decide_eq_false hd]; rfl

/-! ### Bounds -/
/-! ### Proofs -/
end Go.Gw

end
section
set_option maxRecDepth 4096
set_option linter.unusedSimpArgs false
set_option linter.unusedVariables false
namespace Go.Gw
open Go

theorem loop_mapS {α β : Type} {step : (Int × List β) → Option ((Int × List β) ⊕ List β)} (xs : List α) (g : α → β)
    (hs : ∀ k (hk : k < xs.length) (acc : List β), acc.length = k → step ((k : Int), acc) = some (.inl (((k + 1 : Nat) : Int), acc ++ [g xs[k]]))) (he : ∀ acc, step ((xs.length : Int), acc) = some (.inr acc)) :
    loop step (0, []) = some (xs.map g) := by
  have key : ∀ k, k ≤ xs.length → loop step (0, []) = loop step ((k : Int), (xs.take k).map g) := by
    intro k
    induction k with
    | zero => intro _; rfl
    | succ k ih =>
      intro hk
      rw [ih (by omega)]
      refine (loop_inl (hs k (by omega) _ (by simp; omega))).trans ?_
      have e : (xs.take (k + 1)).map g = (xs.take k).map g ++ [g xs[k]] := by rw [List.take_succ_eq_append_getElem (by omega), List.map_append]; rfl
      rw [e]
  rw [key _ (Nat.le_refl _), List.take_length]
  exact loop_inr (he _)
theorem CopyInts_ok (l : List Int) (h : l.length ≤ 1073741824) : base_CopyInts_spec l = some l := by
  unfold base_CopyInts_spec; rw [app_ok (by simpa using h)]; simp
theorem CopyLists_ok (l : List (List Int)) (h : l.length ≤ 1073741824) (hr : ∀ r ∈ l, r.length ≤ 1073741824) : base_CopyLists_spec l = some l := by
  unfold base_CopyLists_spec
  rw [loop_map l id]
  · simp
  · intro k hk acc hacc
    unfold base_CopyLists_s0
    dsimp only
    rw [lt_nat hk, cond_true, idx_nat hk, Option.bind_some, CopyInts_ok _ (hr _ (List.getElem_mem hk)), Option.bind_some, app_ok (by simp [hacc]; omega), Option.bind_some, w64n k (by omega)]; rfl
  · intro acc
    unfold base_CopyLists_s0
    dsimp only
    rw [lt_nat_no]; rfl
theorem CopyPlant_ok (p : LevitatePlant) (h : Sh p) : ref02_CopyPlant_spec p = some p := by
  unfold ref02_CopyPlant_spec
  rw [CopyInts_ok _ (by have := h.noise; omega), Option.bind_some, loop_mapS p.Maps id]
  · simp
  · intro k hk acc hacc
    unfold ref02_CopyPlant_s0
    dsimp only
    have hm := List.getElem_mem hk
    rw [lt_nat hk, cond_true, idx_nat hk, Option.bind_some, CopyLists_ok _ (by have := h.rows _ hm; omega) (fun r hr => by have := h.row _ hm _ hr; omega), Option.bind_some, app_ok (by simp [hacc]; have := h.maps; omega), Option.bind_some, w64n k (by have := h.maps; omega)]; rfl
  · intro acc
    unfold ref02_CopyPlant_s0
    dsimp only
    rw [lt_nat_no]; rfl
theorem Ints_ok (a b : List Int) (h : a.length < 1073741824) : base_Ints_spec a b = some (decide (a = b)) := by
  unfold base_Ints_spec
  rw [len_dec]
  by_cases hl : a.length = b.length
  · rw [loop_fs a (fun k x => if gi b k = x then none else some false)]
    · simp only [hl, decide_true, Bool.not_true, cond_false, Option.bind_some]
      cases hf : fs (fun k x => if gi b k = x then none else some false) 0 a with
      | none =>
        rw [fs_none] at hf
        have : a = b := list_ext_gi hl fun k hk => by
          have := hf k hk
          simp only [Nat.zero_add] at this
          split at this
          · rename_i e; rw [← gi_eq hk]; exact e.symm
          · cases this
        simp [oi, jn0, this]
      | some r =>
        obtain ⟨k, hk, h1⟩ := fs_mem hf
        simp only [Nat.zero_add] at h1
        split at h1
        · cases h1
        · rename_i e
          cases h1
          have : ¬ a = b := fun e2 => by subst e2; exact e (gi_eq hk).symm
          simp [oi, jn0, this]
    · intro k hk
      unfold base_Ints_s0
      rw [lt_nat hk, cond_true, idx_nat hk, Option.bind_some, idx_gi (by omega), Option.bind_some, w64n k (by omega)]
      by_cases e : gi b k = a[k]
      · simp [e, fsS]
      · have e' : ¬ a[k] = gi b k := fun h => e h.symm
        simp [e, e', fsS]
    · unfold base_Ints_s0
      rw [lt_nat_no]; rfl
  · have : ¬ a = b := fun e => hl (by rw [e])
    simp [hl, this]

/-! ### Which plants have few parts -/
theorem Few_run (p : LevitatePlant) : Runs (law02_Few_spec p) fun b => b = true → p.Noise.length ≤ 5 ∧ p.Maps.length ≤ 6 ∧ ∀ m ∈ p.Maps, m.length ≤ 5 ∧ ∀ r ∈ m, r.length ≤ 5 := by
  unfold law02_Few_spec
  by_cases h1 : 5 < (p.Noise.length : Int)
  · rw [decide_eq_true h1]; exact Runs.some fun h => by cases h
  · by_cases h2 : 6 < (p.Maps.length : Int)
    · rw [decide_eq_true h2, decide_eq_false h1]; exact Runs.some fun h => by cases h
    · rw [decide_eq_false h1, decide_eq_false h2]
      simp only [Bool.or_self, cond_false]
      have hl : loop (law02_Few_s1 p) 0 = some (oi (fs (fun _ (m : List (List Int)) => if m.length ≤ 5 ∧ m.all (fun r => decide (r.length ≤ 5)) then none else some false) 0 p.Maps)) := by
        refine loop_fs p.Maps _ (fun k hk => ?_) ?_
        · unfold law02_Few_s1
          rw [lt_nat hk, cond_true, idx_nat hk, Option.bind_some]
          by_cases h3 : 5 < (p.Maps[k].length : Int)
          · have : ¬ p.Maps[k].length ≤ 5 := by omega
            simp [h3, this, fsS]
          · have h3' : p.Maps[k].length ≤ 5 := by omega
            rw [decide_eq_false h3, cond_false]
            have hin : loop (law02_Few_s0 p (k : Int)) 0 = some (oi (if p.Maps[k].all (fun r => decide (r.length ≤ 5)) then none else some (.inr (.inl false) : Int ⊕ (Bool ⊕ Unit)))) := by
              rw [loop_fs p.Maps[k] (fun _ r => if decide (r.length ≤ 5) then none else some (.inr (.inl false) : Int ⊕ (Bool ⊕ Unit)))]
              · have : ∀ (l : List (List Int)) t, fs (fun _ r => if decide (r.length ≤ 5) then none else some (.inr (.inl false) : Int ⊕ (Bool ⊕ Unit))) t l = if l.all (fun r => decide (r.length ≤ 5)) then none else some (.inr (.inl false)) := by
                  intro l
                  induction l with
                  | nil => intro t; rfl
                  | cons y ys ih =>
                    intro t
                    by_cases hy : y.length ≤ 5
                    · simp [fs, hy]; simpa using ih (t + 1)
                    · simp [fs, hy]
                rw [this]
              · intro i hi
                unfold law02_Few_s0
                rw [idx_nat hk, Option.bind_some, lt_nat hi, cond_true, Option.bind_some, idx_nat hi, Option.bind_some, w64n i (by omega)]
                by_cases h4 : 5 < (p.Maps[k][i].length : Int)
                · have : ¬ p.Maps[k][i].length ≤ 5 := by omega
                  simp [h4, this, fsS]
                · have : p.Maps[k][i].length ≤ 5 := by omega
                  simp [h4, this, fsS]
              · unfold law02_Few_s0
                rw [idx_nat hk, Option.bind_some, lt_nat_no]; rfl
            rw [hin, Option.bind_some, w64n k (by omega)]
            cases h5 : p.Maps[k].all (fun r => decide (r.length ≤ 5)) <;> simp [h3', fsS, oi, jn0]
        · unfold law02_Few_s1
          rw [lt_nat_no]; rfl
      rw [hl]
      cases hf : fs (fun _ (m : List (List Int)) => if m.length ≤ 5 ∧ m.all (fun r => decide (r.length ≤ 5)) then none else some false) 0 p.Maps with
      | some r =>
        obtain ⟨k, hk, h6⟩ := fs_mem hf
        split at h6
        · cases h6
        · cases h6; exact Runs.some fun h => by cases h
      | none =>
        refine Runs.some fun _ => ⟨by omega, by omega, fun m hm => ?_⟩
        rw [fs_none] at hf
        obtain ⟨k, hk, rfl⟩ := List.getElem_of_mem hm
        have := hf k hk
        split at this
        · rename_i h7
          exact ⟨h7.1, fun r hr => by simpa using List.all_eq_true.1 h7.2 r hr⟩
        · cases this
theorem sh_few {p : LevitatePlant} (h : p.Noise.length ≤ 5 ∧ p.Maps.length ≤ 6 ∧ ∀ m ∈ p.Maps, m.length ≤ 5 ∧ ∀ r ∈ m, r.length ≤ 5) : Sh p :=
  ⟨by omega, by omega, fun m hm => by have := (h.2.2 m hm).1; omega, fun m hm r hr => by have := (h.2.2 m hm).2 r hr; omega⟩
/-! ### The opposite order -/
/-! ### The example -/
def exP : LevitatePlant := ⟨10, [[[5, 0], [2, 4]]], [3, 1]⟩
def exF : List (List Int) := [[1, 0], [0, 1]]
theorem exP_right : Rp exP := ckP_right.1 (by decide)
theorem exF_right : Rf exF := frmE_right.1 (by decide)
theorem ex_box : levitate_LeastBox_spec exP [0, 0] = some ([6, 4], 0) := by
  obtain ⟨r, hr, h1⟩ := lLeastBox_ok exP_right (bxE_right.1 (by decide) : Bx exP [0, 0])
  rw [hr]; congr 1
  refine h1.eq (.inl ⟨rfl, rfl, by decide, by decide, (show ∀ m, m < 1 → ∀ i, i < 2 → needI exP m i [6, 4] ≤ gi [6, 4] i from by decide), ?_⟩)
  intro K hK hs k hk
  have a0 := hK 0 (by decide) 0 (by decide)
  have a1 := hK 0 (by decide) 1 (by decide)
  have s0 := hs 0 (by decide)
  have s1 := hs 1 (by decide)
  have e0 : needI exP 0 0 K = (0 + 5 * gi K 0 + 0 * gi K 1 + 10 - 1) / 10 + 3 := rfl
  have e1 : needI exP 0 1 K = (0 + 2 * gi K 0 + 4 * gi K 1 + 10 - 1) / 10 + 1 := rfl
  rw [e0] at a0
  rw [e1] at a1
  change (0 : Int) ≤ gi K 0 at s0
  change (0 : Int) ≤ gi K 1 at s1
  match k, hk with
  | 0, _ => show (6 : Int) ≤ gi K 0; omega
  | 1, _ => show (4 : Int) ≤ gi K 1; omega
theorem ex_kept (q : Int) : kptB q 20 ⟨1, 2⟩ = decide (234 ≤ q) := by
  unfold kptB
  have e1 : (2 - 1) * q - 2 * 20 = q - 40 := by omega
  have e2 : 4 * 1 * 2 * q * 20 = 160 * q := by omega
  have e3 : (q - 40) * (q - 40) = q * q - 80 * q + 1600 := by grind
  rw [e1, e2, e3]
  rw [Bool.eq_iff_iff]
  simp only [Bool.and_eq_true, decide_eq_true_eq]
  constructor
  · rintro ⟨h1, h2⟩
    apply Classical.byContradiction
    intro h3
    have h4 : 0 ≤ (q - 40) * (233 - q) := Int.mul_nonneg (by omega) (by omega)
    have h5 : (q - 40) * (233 - q) = 273 * q - q * q - 9320 := by grind
    omega
  · intro h
    have h4 : 0 ≤ (q - 234) * (q - 6) := Int.mul_nonneg (by omega) (by omega)
    have h5 : (q - 234) * (q - 6) = q * q - 240 * q + 1404 := by grind
    exact ⟨by omega, by omega⟩
theorem ex_level : levitate_LeastLevel_spec exP exF ⟨1, 2⟩ = some (234, 0) := by
  unfold levitate_LeastLevel_spec
  rw [proves_ok exP_right exF_right rfl]
  have e : pvV exP exF ⟨1, 2⟩ = (0, 0) := by decide
  rw [e]
  simp only [Option.bind_some, decide_true, Bool.not_true, cond_false]
  change Option.bind (levitate_plant_worst_spec ⟨exP⟩ exF) _ = _
  rw [worst_ok exP_right exF_right.sq exF_right.bd, Option.bind_some, show worstI exP exF = 20 by decide]
  obtain ⟨q, hq, h1, h2, h3, h4, h5⟩ := least61_run (worst := 20) (r := ⟨1, 2⟩) ⟨by decide, by decide⟩ (by decide)
  rw [hq, Option.bind_some]
  rw [ex_kept] at h3 h4
  have : q.1 = 234 := by
    simp only [decide_eq_true_eq, decide_eq_false_iff_not] at h3 h4
    omega
  rw [h5, this]; rfl
end Go.Gw

end
section
set_option maxRecDepth 8192
set_option linter.unusedSimpArgs false
set_option linter.unusedVariables false
namespace Go.Gw
open Go

/-! ### Division downwards -/
theorem neg_ceil {n b : Int} (hb : 1 ≤ b) : -((-n + b - 1) / b) = n / b := by
  have h1 := Int.mul_ediv_add_emod n b
  have h2 := Int.emod_nonneg n (show b ≠ 0 by omega)
  have h3 := Int.emod_lt_of_pos n (show 0 < b by omega)
  have : (-n + b - 1) / b = -(n / b) := by
    rw [show -n + b - 1 = (b - 1 - n % b) + b * (-(n / b)) by rw [Int.mul_neg]; omega, Int.add_mul_ediv_left _ _ (by omega), Int.ediv_eq_zero_of_lt (by omega) (by omega)]; omega
  omega
theorem div_bd {n b : Int} (hb : 1 ≤ b) {M : Int} (h : -M ≤ n ∧ n ≤ M) : -M ≤ n / b ∧ n / b ≤ M := by
  by_cases h0 : 0 ≤ n
  · have h1 : 0 ≤ n / b := Int.ediv_nonneg h0 (by omega)
    have h2 : n / b ≤ n := Int.ediv_le_self _ h0
    omega
  · have h1 : n / b < 0 := Int.ediv_neg_of_neg_of_pos (by omega) (by omega)
    have h2 := neg_ceil (n := n) hb
    have h3 : (-n + b - 1) / b ≤ -n := by
      apply Int.ediv_le_of_le_mul (by omega)
      have : 0 ≤ (-n - 1) * (b - 1) := Int.mul_nonneg (by omega) (by omega)
      have e : (-n - 1) * (b - 1) = -n * b + n - b + 1 := by grind
      omega
    omega
theorem lfloor_ok {n b : Int} (h : -4000000000000000000 ≤ n ∧ n ≤ 4000000000000000000) (h2 : 1 ≤ b) (h3 : b ≤ 4000000000000000000) : levitate_floor_spec n b = some (n / b) := by
  unfold levitate_floor_spec
  by_cases hn : n < 0
  · rw [decide_eq_true hn, cond_true, show w64 (0 - n) = -n by rw [w64_id (by omega)]; omega]
    unfold levitate_ceil_part_spec
    rw [show decide (-n < 0) = false by simp; omega, cond_false, w64_id (x := -n + b) (by omega), w64_id (by omega), quo_ok (by omega), Int.tdiv_eq_ediv_of_nonneg (by omega)]
    have e := neg_ceil (n := n) h2
    have h4 : 0 ≤ (-n + b - 1) / b := Int.ediv_nonneg (by omega) (by omega)
    have h5 : (-n + b - 1) / b ≤ -n + b - 1 := Int.ediv_le_self _ (by omega)
    simp only [Option.bind_some]
    rw [w64_id (x := (-n + b - 1) / b) (by omega), w64_id (by omega)]
    congr 1; omega
  · rw [decide_eq_false hn, cond_false, quo_ok (by omega), Int.tdiv_eq_ediv_of_nonneg (by omega), Option.bind_some]
    have := div_bd h2 h
    rw [w64_id (by omega)]

/-! ### Samples -/
def smE (p : LevitatePlant) (s : LevitateSample) : Int :=
  if 0 ≤ s.Map ∧ s.Map < p.Maps.length then
    (if s.Noise.length = p.Noise.length then
      (match fs (fun k x => if smallB (gi p.Noise k) x then none else some (2 : Int)) 0 s.Noise with | some e => e | none => 0) else 10) else 6
structure Sm (p : LevitatePlant) (s : LevitateSample) : Prop where
  m0 : 0 ≤ s.Map
  m1 : s.Map < p.Maps.length
  len : s.Noise.length = p.Noise.length
  nz : ∀ k, k < p.Noise.length → -gi p.Noise k ≤ gi s.Noise k ∧ gi s.Noise k ≤ gi p.Noise k
theorem fs_two {α : Type} {P : Nat → α → Bool} {l : List α} {k : Nat} {e : Int} (h : fs (fun k x => if P k x then none else some (2 : Int)) k l = some e) : e = 2 := by
  obtain ⟨i, hi, h1⟩ := fs_mem h
  split at h1
  · cases h1
  · cases h1; rfl
theorem smE_right {p : LevitatePlant} {s : LevitateSample} : smE p s = 0 ↔ Sm p s := by
  unfold smE
  constructor
  · intro h
    split at h
    · rename_i h1
      split at h
      · rename_i h2
        cases h3 : fs (fun k x => if smallB (gi p.Noise k) x then none else some (2 : Int)) 0 s.Noise with
        | some e => rw [h3] at h; have := fs_two h3; simp only at h; omega
        | none =>
          refine ⟨h1.1, h1.2, h2, fun k hk => ?_⟩
          have h4 := fs_none.1 h3 k (by omega)
          rw [Nat.zero_add, gi_eq (by omega)] at h4
          split at h4
          · rename_i h5; exact (small_iff _ _).1 h5
          · cases h4
      · omega
    · omega
  · intro h
    rw [if_pos ⟨h.m0, h.m1⟩, if_pos h.len]
    have : fs (fun k x => if smallB (gi p.Noise k) x then none else some (2 : Int)) 0 s.Noise = none := fs_none.2 fun i hi => by
      have := h.nz i (by have := h.len; omega)
      rw [Nat.zero_add, gi_eq hi, if_pos ((small_iff _ _).2 this)]
    rw [this]
theorem smE_loop {p : LevitatePlant} {s : LevitateSample} (hl : s.Noise.length = p.Noise.length) : (jn0 (oi (fs (fun k x => if smallB (gi p.Noise k) x then none else some (2 : Int)) 0 s.Noise)) fun (_ : Unit) => some 0) = some (match fs (fun k x => if smallB (gi p.Noise k) x then none else some (2 : Int)) 0 s.Noise with | some e => e | none => 0) := by
  cases fs (fun k x => if smallB (gi p.Noise k) x then none else some (2 : Int)) 0 s.Noise <;> rfl
theorem lsampleErr_ok {p : LevitatePlant} (h : Rp p) {s : LevitateSample} (hs : s.Noise.length < 1073741824) : levitate_plant_sampleErr_spec ⟨p⟩ s = some (smE p s) := by
  unfold levitate_plant_sampleErr_spec
  have hm1 := h.m1
  have hm4 := h.m4
  rw [w64_id (by dsimp only; omega)]
  simp only [lwithin_ok, Option.bind_some, lunless_ok, first2, len_dec]
  unfold smE
  by_cases h1 : 0 ≤ s.Map ∧ s.Map < p.Maps.length
  · have e1 : (decide (0 ≤ s.Map) && decide (s.Map ≤ (p.Maps.length : Int) - 1)) = true := by simp; omega
    rw [if_pos h1, e1]
    by_cases h2 : s.Noise.length = p.Noise.length
    · rw [if_pos h2, decide_eq_true h2]
      simp only [cond_true, decide_true, Bool.not_true, cond_false, if_pos]
      rw [loop_fs s.Noise (fun k x => if smallB (gi p.Noise k) x then none else some 2), Option.bind_some, smE_loop h2]
      · intro k hk
        unfold levitate_plant_sampleErr_s0
        rw [lt_nat hk, idx_nat hk, w64n k (by omega)]
        dsimp only
        have hb := h.noise_b (i := k) (by omega)
        rw [cond_true, Option.bind_some, idx_gi (by omega), Option.bind_some, lsmall_ok _ _ (by omega), Option.bind_some]
        cases smallB (gi p.Noise k) s.Noise[k] <;> rfl
      · unfold levitate_plant_sampleErr_s0
        rw [lt_nat_no]; rfl
    · rw [if_neg h2, decide_eq_false h2]; rfl
  · have e1 : (decide (0 ≤ s.Map) && decide (s.Map ≤ (p.Maps.length : Int) - 1)) = false := by simp; omega
    rw [if_neg h1, e1]; rfl
def smsF (p : LevitatePlant) (l : List LevitateSample) : Option Int := fs (fun _ s => if smE p s = 0 then none else some (smE p s)) 0 l
def smsE (p : LevitatePlant) (l : List LevitateSample) : Int := match smsF p l with | some e => e | none => 0
theorem smsE_right {p : LevitatePlant} {l : List LevitateSample} : smsE p l = 0 ↔ ∀ s ∈ l, Sm p s := by
  unfold smsE
  constructor
  · intro h s hs
    cases h1 : smsF p l with
    | some e =>
      rw [h1] at h
      obtain ⟨i, hi, h2⟩ := fs_mem h1
      split at h2
      · cases h2
      · cases h2; exact absurd h (by assumption)
    | none =>
      obtain ⟨i, hi, rfl⟩ := List.mem_iff_getElem.1 hs
      have h2 := fs_none.1 h1 i hi
      split at h2
      · exact smE_right.1 (by assumption)
      · cases h2
  · intro h
    have : smsF p l = none := fs_none.2 fun i hi => by rw [if_pos (smE_right.2 (h _ (List.getElem_mem hi)))]
    rw [this]
def opR (p : LevitatePlant) (x : List Int) (l : List LevitateSample) : Int :=
  if (ckP p).2 ≠ 0 then (ckP p).2 else if stE p x ≠ 0 then stE p x else if 60 < l.length then 8 else smsE p l
theorem lopenRun_ok {p : LevitatePlant} (h : Sh p) {x : List Int} (hx : x.length < 1073741824) {l : List LevitateSample} (hl : l.length < 1073741824) (hs : ∀ s ∈ l, s.Noise.length < 1073741824) :
    levitate_openRun_spec p x l = some (⟨p⟩, opR p x l) := by
  unfold levitate_openRun_spec
  rw [lopen_ok p h, Option.bind_some]
  dsimp only
  unfold opR
  by_cases h0 : (ckP p).2 = 0
  · have hp := ckP_right.1 h0
    rw [if_neg (by simp [h0]), decide_eq_true h0]
    simp only [Bool.not_true, cond_false, lunless_ok, Option.bind_some, first2]
    change Option.bind (levitate_plant_stateErr_spec ⟨p⟩ x) _ = _
    rw [lstateErr_ok p x hx, Option.bind_some]
    by_cases h1 : stE p x = 0
    · by_cases h2 : 60 < l.length
      · have e : decide ((l.length : Int) ≤ 60) = false := decide_eq_false (by omega)
        simp [h1, h2, e]
      · have e : decide ((l.length : Int) ≤ 60) = true := decide_eq_true (by omega)
        simp only [e, h1, h2, if_true, if_false, cond_true, decide_true, Bool.not_true, cond_false, ne_eq, not_true_eq_false]
        rw [loop_fs l (fun _ s => if smE p s = 0 then none else some (⟨p⟩, smE p s)), Option.bind_some]
        · have e : fs (fun (_ : Nat) s => if smE p s = 0 then none else some ((⟨p⟩ : levitate_plant), smE p s)) 0 l = (smsF p l).map fun e => (⟨p⟩, e) := by
            unfold smsF
            rw [← map_fs]
            exact fs_congr fun i hi => by split <;> rfl
          rw [e]
          unfold smsE
          cases smsF p l <;> rfl
        · intro k hk
          unfold levitate_openRun_s0
          rw [lt_nat hk, idx_nat hk, w64n k (by omega), cond_true, Option.bind_some]
          change Option.bind (levitate_plant_sampleErr_spec ⟨p⟩ l[k]) _ = _
          rw [lsampleErr_ok hp (hs _ (List.getElem_mem hk)), Option.bind_some]
          by_cases h2 : smE p l[k] = 0
          · simp [h2, fsS]
          · simp only [h2, decide_false, Bool.not_false, cond_true, if_false, fsS]
        · unfold levitate_openRun_s0
          rw [lt_nat_no]; rfl
    · simp [h1]
  · rw [if_pos h0, decide_eq_false h0]; rfl

/-! ### Steps -/
def dotP (p : LevitatePlant) (m i : Nat) (x : List Int) : Int := sumN (fun k => ge p m i k * gi x k) p.Noise.length
def stepI (p : LevitatePlant) (x : List Int) (s : LevitateSample) : List Int := tab p.Noise.length fun i => dotP p s.Map.toNat i x / p.Den + gi s.Noise i
def rnV (p : LevitatePlant) : List Int → List LevitateSample → Option (List (List Int))
  | _, [] => some []
  | x, s :: l => if (stepI p x s).all (smallB 100000) then (rnV p (stepI p x s) l).map (stepI p x s :: ·) else none
def rnR : Option (List (List Int)) → List (List Int) × Int
  | some ys => (ys, 0)
  | none => ([], 24)
structure Stt (p : LevitatePlant) (x : List Int) : Prop where
  len : x.length = p.Noise.length
  bd : ∀ k, k < p.Noise.length → -100000 ≤ gi x k ∧ gi x k ≤ 100000
theorem all_small {x : List Int} {n : Nat} (hl : x.length = n) {M : Int} : x.all (smallB M) = true ↔ ∀ k, k < n → -M ≤ gi x k ∧ gi x k ≤ M := by
  subst hl
  rw [List.all_eq_true]
  constructor
  · intro h k hk; exact (small_iff _ _).1 (h _ (gi_mem hk))
  · intro h y hy
    obtain ⟨k, hk, rfl⟩ := mem_gi hy
    exact (small_iff _ _).2 (h k hk)
theorem stE_right {p : LevitatePlant} {x : List Int} : stE p x = 0 ↔ Stt p x := by
  unfold stE
  constructor
  · intro h
    by_cases h1 : x.length = p.Noise.length
    · refine ⟨h1, ?_⟩
      cases h2 : x.all (smallB 100000) with
      | true => exact (all_small h1).1 h2
      | false => simp [h1, h2] at h
    · simp [h1] at h
  · intro h
    simp [h.len, (all_small h.len).2 h.bd]
theorem dotP_b {p : LevitatePlant} (h : Rp p) {m i : Nat} (hm : m < p.Maps.length) (hi : i < p.Noise.length) {x : List Int} (hx : ∀ k, k < p.Noise.length → -100000 ≤ gi x k ∧ gi x k ≤ 100000) : -300000000 ≤ dotP p m i x ∧ dotP p m i x ≤ 300000000 :=
  sumN_abs3 h.n3 (by decide) fun k hk => abs_mul (h.ge_b hm hi hk) (hx k hk)
theorem stepI_len (p : LevitatePlant) (x : List Int) (s : LevitateSample) : (stepI p x s).length = p.Noise.length := tab_len _ _
theorem stepI_stt {p : LevitatePlant} {x : List Int} {s : LevitateSample} : Stt p (stepI p x s) ↔ (stepI p x s).all (smallB 100000) = true :=
  ⟨fun h => (all_small h.len).2 h.bd, fun h => ⟨stepI_len _ _ _, (all_small (stepI_len _ _ _)).1 h⟩⟩
theorem step_ok {p : LevitatePlant} (h : Rp p) {x : List Int} (hx : Stt p x) {s : LevitateSample} (hs : Sm p s) : loop (levitate_plant_run_s0 s (gm p s.Map.toNat) ⟨p⟩ x) ([], 0) = some (stepI p x s) := by
  have hm : s.Map.toNat < p.Maps.length := by have := hs.m0; have := hs.m1; omega
  have hrl : (gm p s.Map.toNat).length = p.Noise.length := h.sq _ (gm_mem hm)
  have hn := h.n3
  refine loop_list p.Noise.length _ ?_ ?_
  · intro i hi acc hacc
    unfold levitate_plant_run_s0
    dsimp only
    have hd := h.den
    have hb := dotP_b h hm hi hx.bd
    have hg : gi (gm p s.Map.toNat)[i]! 0 = gi (gm p s.Map.toNat)[i]! 0 := rfl
    rw [lt_nat (by omega), cond_true, idx_gr (by omega), Option.bind_some, idx_gi (by have := hs.len; omega), Option.bind_some, dot_ok (by rw [h.row_len hm hi, hx.len]; exact Nat.le_refl _) (by rw [h.row_len hm hi]; omega), Option.bind_some, h.row_len hm hi]
    change Option.bind (levitate_floor_spec (w64 (dotP p s.Map.toNat i x)) p.Den) _ = _
    rw [w64_id (by omega), lfloor_ok (by omega) hd.1 (by omega), Option.bind_some]
    have h1 := div_bd hd.1 hb
    have h2 := hs.nz i hi
    have h3 := h.noise_b hi
    rw [w64_id (by omega), app_ok (by simp; omega), Option.bind_some, w64n i (by omega)]
  · intro acc
    unfold levitate_plant_run_s0
    dsimp only
    rw [hrl, lt_nat_no]; rfl
theorem run_ok {p : LevitatePlant} (h : Rp p) {l : List LevitateSample} (hl : l.length < 1000) (hs : ∀ s ∈ l, Sm p s) {x : List Int} (hx : Stt p x) : levitate_plant_run_spec ⟨p⟩ x l = some (rnR (rnV p x l)) := by
  unfold levitate_plant_run_spec
  have key : ∀ (r l0 : List LevitateSample) (x : List Int) (acc : List (List Int)), l = l0 ++ r → acc.length = l0.length → Stt p x →
      loop (levitate_plant_run_s1 l ⟨p⟩) ((l0.length : Int), acc, x) = some (match rnV p x r with | some ys => .inr (acc ++ ys) | none => .inl ([], 24)) := by
    intro r
    induction r with
    | nil =>
      intro l0 x acc he ha hx
      refine loop_inr ?_
      unfold levitate_plant_run_s1
      dsimp only
      rw [he, List.append_nil, lt_nat_no]
      simp [rnV]
    | cons s r ih =>
      intro l0 x acc he ha hx
      have hlt : l0.length < l.length := by rw [he]; simp
      have hel : l[l0.length]'hlt = s := by simp [he]
      have hsm := hs s (by rw [he]; simp)
      have hm : s.Map.toNat < p.Maps.length := by have := hsm.m0; have := hsm.m1; omega
      have em : s.Map = (s.Map.toNat : Int) := by have := hsm.m0; omega
      have hstep := step_ok h hx hsm
      have hsl := stepI_len p x s
      have hn := h.n3
      have ea : levitate_allSmall_spec 100000 = some 100000 := rfl
      have st : levitate_plant_run_s1 l ⟨p⟩ ((l0.length : Int), acc, x) = if (stepI p x s).all (smallB 100000) then some (.inl (((l0 ++ [s]).length : Int), acc ++ [stepI p x s], stepI p x s)) else some (.inr (.inl ([], 24))) := by
        unfold levitate_plant_run_s1
        dsimp only
        rw [lt_nat hlt, cond_true, idx_nat hlt, Option.bind_some, hel]
        have ei : idx p.Maps s.Map = some (gm p s.Map.toNat) := by rw [em]; exact idx_gm hm
        rw [ei, Option.bind_some, hstep, Option.bind_some, ea, Option.bind_some, allSmall_ok _ 100000 (by decide) (by omega), Option.bind_some]
        cases hb : (stepI p x s).all (smallB 100000) with
        | false => rfl
        | true =>
          have hal : acc.length < 1000 := by omega
          simp only [Bool.not_true, cond_false, Option.bind_some, if_true]
          rw [app_ok (by simp; omega), Option.bind_some, w64n _ (by omega), allSmall_ok _ 100000 (by decide) (by omega), Option.bind_some, hb]
          simp
      cases hb : (stepI p x s).all (smallB 100000) with
      | false =>
        rw [hb] at st
        rw [loop_inr st, rnV, if_neg (by simp [hb])]
      | true =>
        rw [hb] at st
        rw [loop_inl st, ih (l0 ++ [s]) _ _ (by rw [he]; simp) (by simp [ha]) (stepI_stt.2 hb), rnV, if_pos hb]
        cases rnV p (stepI p x s) r <;> simp
  have := key l [] x [] rfl rfl hx
  change loop (levitate_plant_run_s1 l ⟨p⟩) (0, [], x) = _ at this
  rw [this]
  cases rnV p x l <;> rfl
def runR (p : LevitatePlant) (x : List Int) (l : List LevitateSample) : List (List Int) × Int := if opR p x l = 0 then rnR (rnV p x l) else ([], opR p x l)
theorem RunOf_ok {p : LevitatePlant} (h : Sh p) {x : List Int} (hx : x.length < 1073741824) {l : List LevitateSample} (hl : l.length < 1073741824) (hs : ∀ s ∈ l, s.Noise.length < 1073741824) : levitate_RunOf_spec p x l = some (runR p x l) := by
  unfold levitate_RunOf_spec runR
  rw [lopenRun_ok h hx hl hs, Option.bind_some]
  by_cases h0 : opR p x l = 0
  · rw [if_pos h0, decide_eq_true h0]
    unfold opR at h0
    split at h0
    · exact absurd h0 (by assumption)
    · rename_i h1
      split at h0
      · exact absurd h0 (by assumption)
      · rename_i h2
        split at h0
        · omega
        · rename_i h3
          have hp := ckP_right.1 (Classical.not_not.1 h1)
          simp only [Bool.not_true, cond_false]
          change Option.bind (levitate_plant_run_spec ⟨p⟩ x l) _ = _
          rw [run_ok hp (by omega) (smsE_right.1 h0) (stE_right.1 (Classical.not_not.1 h2))]
          rfl
  · rw [if_neg h0, decide_eq_false h0]; rfl
def stpR (p : LevitatePlant) (x : List Int) (s : LevitateSample) : List Int × Int :=
  if opR p x [s] = 0 then (if (stepI p x s).all (smallB 100000) then (stepI p x s, 0) else ([], 24)) else ([], opR p x [s])
theorem StepOf_ok {p : LevitatePlant} (h : Sh p) {x : List Int} (hx : x.length < 1073741824) {s : LevitateSample} (hs : s.Noise.length < 1073741824) : levitate_StepOf_spec p x s = some (stpR p x s) := by
  unfold levitate_StepOf_spec
  rw [RunOf_ok h hx (by simp) (by simpa using hs), Option.bind_some]
  unfold runR stpR
  by_cases h0 : opR p x [s] = 0
  · rw [if_pos h0, if_pos h0]
    cases hb : (stepI p x s).all (smallB 100000) with
    | true => simp [rnV, rnR, hb, idx]
    | false => simp [rnV, rnR, hb]
  · rw [if_neg h0, if_neg h0]
    simp only [h0, decide_false, Bool.not_false, cond_true]

/-! ### The examples -/
theorem ex_step : levitate_StepOf_spec exP [20, -10] ⟨0, [1, -1]⟩ = some ([11, -1], 0) := by
  rw [StepOf_ok exP_right.sh (by decide) (by decide)]; decide
theorem ex_force : levitate_ForceOf_spec 1000 ⟨10, 20⟩ ⟨5, 10⟩ = some (⟨1000, 16000⟩, 0) := by
  unfold levitate_ForceOf_spec levitate_isFactor_spec levitate_ends_95_spec levitate_ends_96_spec levitate_isCurrent_spec levitate_isGap_spec
  simp only [lwithin_ok, lunless_ok, first2, Option.bind_some]
  rw [show levitate_floor_spec (w64 (w64 (1000 * 10) * 10)) (w64 (10 * 10)) = some 1000 by decide, show levitate_ceil_spec (w64 (w64 (1000 * 20) * 20)) (w64 (5 * 5)) = some 16000 by decide]
  rfl
theorem ex_read : levitate_reading_whole_spec 1120403456 = some true ∧ levitate_reading_whole_spec 1120796672 = some true ∧ levitate_reading_whole_spec 1132068864 = some true := by decide +kernel
theorem ex_in : (fGe 1120403456 0 && fLe 1120403456 1161527296) = true ∧ (fGe 1120796672 0 && fLe 1120796672 1161527296) = true ∧ (fGe 1132068864 0 && fLe 1132068864 1161527296) = true := by decide +kernel
theorem ex_int : fToI 1120403456 = some 100 ∧ fToI 1120796672 = some 103 ∧ fToI 1132068864 = some 250 := by decide +kernel
theorem srtI_id {l : List Int} (h : 0 < l.length) (h1 : l.length ≤ 1073741824) (hs : l.Pairwise fun x y => decide (x ≤ y) = true) : srtI l = some l := by
  unfold srtI
  rw [if_pos ⟨h, h1⟩, List.mergeSort_of_pairwise hs]
theorem ex_mid : levitate_MiddleOf_spec ⟨⟨1120403456, 1120796672, 1132068864⟩, 5⟩ = some (103, 0) := by
  unfold levitate_MiddleOf_spec
  have st : ∀ (k : Nat) (acc : List Int) (f : Nat) (n : Int), k < 3 → idx [(1120403456 : Nat), 1120796672, 1132068864] (k : Int) = some f → levitate_reading_whole_spec f = some true → (fGe f 0 && fLe f 1161527296) = true → fToI f = some n → acc.length < 3 →
      levitate_MiddleOf_s0 ⟨⟨1120403456, 1120796672, 1132068864⟩, 5⟩ (acc, (k : Int)) = some (.inl (acc ++ [n], ((k + 1 : Nat) : Int))) := by
    intro k acc f n hk hi hw hin hn ha
    unfold levitate_MiddleOf_s0
    dsimp only
    rw [decide_eq_true (show (k : Int) < 3 by omega), cond_true, hi, Option.bind_some, hw, Option.bind_some, lunless_ok, Option.bind_some, hin, lunless_ok, Option.bind_some, cond_true, first2, Option.bind_some, if_pos rfl]
    rw [show (!decide ((bif true then (0 : Int) else 2) = 0)) = false from rfl, cond_false, hn, Option.bind_some]
    rw [app_ok (by simp; omega), Option.bind_some, w64n k (by omega)]
  have key : loop (levitate_MiddleOf_s0 ⟨⟨1120403456, 1120796672, 1132068864⟩, 5⟩) ([], 0) = some (.inr [100, 103, 250]) := by
    refine (loop_inl (st 0 [] _ _ (by decide) rfl ex_read.1 ex_in.1 ex_int.1 (by decide))).trans ?_
    refine (loop_inl (st 1 _ _ _ (by decide) rfl ex_read.2.1 ex_in.2.1 ex_int.2.1 (by decide))).trans ?_
    refine (loop_inl (st 2 _ _ _ (by decide) rfl ex_read.2.2 ex_in.2.2 ex_int.2.2 (by decide))).trans ?_
    exact loop_inr rfl
  rw [key, Option.bind_some]
  unfold jn0
  dsimp only
  rw [srtI_id (by decide) (by decide) (by decide)]
  rfl
theorem awake_ok : law02_awake_spec = some true := by
  unfold law02_awake_spec law02_Plant_spec law02_Form_spec
  simp only [Option.bind_some]
  change Option.bind (levitate_StepOf_spec exP [20, -10] ⟨0, [1, -1]⟩) _ = _
  rw [ex_step, Option.bind_some]
  change Option.bind (levitate_LeastBox_spec exP [0, 0]) _ = _
  rw [ex_box, Option.bind_some]
  change Option.bind (levitate_LeastLevel_spec exP exF ⟨1, 2⟩) _ = _
  rw [ex_level, Option.bind_some, ex_force, Option.bind_some, ex_mid]
  simp only [Option.bind_some, decide_true, cond_true, Bool.and_true, Ints_ok [11, -1] [11, -1] (by decide), Ints_ok [6, 4] [6, 4] (by decide)]
end Go.Gw

end
section
set_option maxRecDepth 8192
set_option linter.unusedSimpArgs false
set_option linter.unusedVariables false
namespace Go.Gw
open Go

end Go.Gw

end
section
set_option maxRecDepth 8192
set_option linter.unusedSimpArgs false
set_option linter.unusedVariables false
namespace Go.Gw
open Go

end Go.Gw

end
section
set_option maxRecDepth 8192
set_option linter.unusedSimpArgs false
set_option linter.unusedVariables false
namespace Go.Gw
open Go

theorem Runs.gd {α β : Type} {Q : α → Prop} [Inhabited β] {g : Bool} {e : Option β} {f : β → Option α} (ht : g = true → Runs (Option.bind e f) Q) (hf : g = false → Runs (f default) Q) : Runs (Option.bind (bif g then e else Option.some default) f) Q := by
  cases g
  · exact hf rfl
  · exact ht rfl
end Go.Gw

end
section
set_option maxRecDepth 8192
set_option linter.unusedSimpArgs false
set_option linter.unusedVariables false
namespace Go.Gw
open Go

theorem rPlantErr_ok (p : LevitatePlant) (h : Sh p) : ref02_PlantErr_spec p = some (ckP p).2 := by
  unfold ref02_PlantErr_spec; rw [rCheckPlant_ok p h]; rfl
theorem rStateErr_ok (p : LevitatePlant) (x : List Int) (hx : x.length < 1073741824) : ref02_StateErr_spec p x = some (stE p x) := by
  unfold ref02_StateErr_spec
  rw [loop_fs x (fun _ n => if smallB 100000 n then none else some 2)]
  · have : ∀ (l : List Int) t, fs (fun _ n => if smallB 100000 n then none else some (2 : Int)) t l = if l.all (smallB 100000) then none else some 2 := by
      intro l
      induction l with
      | nil => intro t; rfl
      | cons y ys ih =>
        intro t
        cases hy : smallB 100000 y with
        | true => simp [fs, hy, ih]
        | false => simp [fs, hy]
    simp only [this, len_dec, Option.bind_some]
    unfold stE
    by_cases h : x.length = p.Noise.length <;> cases h2 : x.all (smallB 100000) <;> simp [h, oi, jn0]
  · intro k hk
    unfold ref02_StateErr_s0
    rw [lt_nat hk, idx_nat hk, w64n k (by omega)]
    simp only [cond_true, Option.bind_some, bwithin_ok]
    show (bif !smallB 100000 x[k] then _ else _) = _
    cases smallB 100000 x[k] <;> rfl
  · unfold ref02_StateErr_s0
    rw [lt_nat_no]; rfl
theorem rSampleErr_ok {p : LevitatePlant} (h : Rp p) {s : LevitateSample} (hs : s.Noise.length < 1073741824) : ref02_SampleErr_spec p s = some (smE p s) := by
  unfold ref02_SampleErr_spec
  have hm1 := h.m1
  have hm4 := h.m4
  rw [w64_id (by omega)]
  simp only [bwithin_ok, Option.bind_some, len_dec]
  unfold smE
  by_cases h1 : 0 ≤ s.Map ∧ s.Map < p.Maps.length
  · have e1 : (decide (0 ≤ s.Map) && decide (s.Map ≤ (p.Maps.length : Int) - 1)) = true := by simp; omega
    rw [if_pos h1, e1]
    by_cases h2 : s.Noise.length = p.Noise.length
    · rw [if_pos h2, decide_eq_true h2]
      simp only [Bool.not_true, cond_false]
      rw [loop_fs s.Noise (fun k x => if smallB (gi p.Noise k) x then none else some 2), Option.bind_some, smE_loop h2]
      · intro k hk
        unfold ref02_SampleErr_s0
        rw [lt_nat hk, idx_nat hk, w64n k (by omega)]
        have hb := h.noise_b (i := k) (by omega)
        rw [cond_true, Option.bind_some, idx_gi (by omega), Option.bind_some, Option.bind_some, show w64 (0 - gi p.Noise k) = -gi p.Noise k by rw [w64_id (by omega)]; omega, bwithin_ok, Option.bind_some]
        show (bif !smallB (gi p.Noise k) s.Noise[k] then _ else _) = _
        cases smallB (gi p.Noise k) s.Noise[k] <;> rfl
      · unfold ref02_SampleErr_s0
        rw [lt_nat_no]; rfl
    · rw [if_neg h2, decide_eq_false h2]; rfl
  · have e1 : (decide (0 ≤ s.Map) && decide (s.Map ≤ (p.Maps.length : Int) - 1)) = false := by simp; omega
    rw [if_neg h1, e1]; rfl
theorem rSamplesErr_ok {p : LevitatePlant} (h : Rp p) {l : List LevitateSample} (hl : l.length < 1073741824) (hs : ∀ s ∈ l, s.Noise.length < 1073741824) : ref02_SamplesErr_spec p l = some (if 60 < l.length then 8 else smsE p l) := by
  unfold ref02_SamplesErr_spec
  by_cases h1 : 60 < l.length
  · rw [decide_eq_true (by omega), if_pos h1]; rfl
  · rw [decide_eq_false (by omega), if_neg h1, cond_false, loop_fs l (fun _ s => if smE p s = 0 then none else some (smE p s)), Option.bind_some]
    · unfold smsE smsF
      cases fs (fun _ s => if smE p s = 0 then none else some (smE p s)) 0 l <;> rfl
    · intro k hk
      unfold ref02_SamplesErr_s0
      rw [lt_nat hk, idx_nat hk, w64n k (by omega), cond_true, Option.bind_some, rSampleErr_ok h (hs _ (List.getElem_mem hk)), Option.bind_some]
      by_cases h2 : smE p l[k] = 0 <;> simp [h2, fsS]
    · unfold ref02_SamplesErr_s0
      rw [lt_nat_no]; rfl
end Go.Gw

end
section
set_option maxRecDepth 8192
set_option linter.unusedSimpArgs false
set_option linter.unusedVariables false
namespace Go.Gw
open Go

theorem bfloor_ok {n b : Int} (h : -4000000000000000000 ≤ n ∧ n ≤ 4000000000000000000) (h2 : 1 ≤ b) (h3 : b ≤ 4000000000000000000) : base_Floor_spec n b = some (n / b) := by
  unfold base_Floor_spec
  rw [quo_ok (by omega), rem_ok (by omega)]
  simp only [Option.bind_some]
  have hb := div_bd h2 h
  by_cases hn : 0 ≤ n
  · rw [Int.tdiv_eq_ediv_of_nonneg hn, Int.tmod_eq_emod_of_nonneg hn, decide_eq_false (by have := Int.emod_nonneg n (show b ≠ 0 by omega); omega), cond_false, w64_id (by omega)]
  · obtain ⟨m, rfl⟩ : ∃ m, n = -m := ⟨-n, by omega⟩
    rw [Int.neg_tdiv, Int.neg_tmod, Int.tdiv_eq_ediv_of_nonneg (by omega), Int.tmod_eq_emod_of_nonneg (by omega)]
    have e := neg_ceil (n := -m) h2
    rw [Int.neg_neg] at e
    have h4 := Int.mul_ediv_add_emod m b
    have h5 := Int.emod_nonneg m (show b ≠ 0 by omega)
    have h6 := Int.emod_lt_of_pos m (show 0 < b by omega)
    have h7 : (m + b - 1) / b = m / b + (m % b + b - 1) / b := by
      rw [show m + b - 1 = (m % b + b - 1) + b * (m / b) by omega, Int.add_mul_ediv_left _ _ (by omega)]; omega
    have h8 : 0 ≤ m / b := Int.ediv_nonneg (by omega) (by omega)
    have h9 : m / b ≤ m := Int.ediv_le_self _ (by omega)
    by_cases h10 : m % b = 0
    · rw [h10] at h7 ⊢
      rw [Int.ediv_eq_zero_of_lt (a := 0 + b - 1) (by omega) (by omega)] at h7
      rw [decide_eq_false (by omega), cond_false, w64_id (by omega)]; congr 1; omega
    · have h11 : (m % b + b - 1) / b = 1 := by
        rw [show m % b + b - 1 = (m % b - 1) + b * 1 by omega, Int.add_mul_ediv_left _ _ (by omega), Int.ediv_eq_zero_of_lt (by omega) (by omega)]; omega
      rw [decide_eq_true (by omega), cond_true, w64_id (x := -(m / b)) (by omega), w64_id (by omega)]; congr 1; omega
theorem CopySample_ok (s : LevitateSample) (h : s.Noise.length ≤ 1073741824) : ref02_CopySample_spec s = some s := by
  unfold ref02_CopySample_spec
  rw [CopyInts_ok _ h]; rfl
theorem rStep_ok {p : LevitatePlant} (h : Rp p) {x : List Int} (hx : Stt p x) {s : LevitateSample} (hs : Sm p s) : ref02_Step_spec p x s = some (stepI p x s) := by
  have hm : s.Map.toNat < p.Maps.length := by have := hs.m0; have := hs.m1; omega
  have hrl : (gm p s.Map.toNat).length = p.Noise.length := h.sq _ (gm_mem hm)
  have hn := h.n3
  have hxl := hx.len
  have em : s.Map = (s.Map.toNat : Int) := by have := hs.m0; omega
  have ei : idx p.Maps s.Map = some (gm p s.Map.toNat) := by rw [em]; exact idx_gm hm
  unfold ref02_Step_spec
  rw [loop_list p.Noise.length fun i => dotP p s.Map.toNat i x / p.Den + gi s.Noise i]
  · rfl
  · intro i hi acc hacc
    unfold ref02_Step_s1
    dsimp only
    have hd := h.den
    have hb := dotP_b h hm hi hx.bd
    rw [lt_nat (by omega), cond_true]
    rw [loop_sum p.Noise.length (fun k => ge p s.Map.toNat i k * gi x k)]
    · change Option.bind (some (w64 (dotP p s.Map.toNat i x))) _ = _
      rw [Option.bind_some, idx_gi (by have := hs.len; omega), Option.bind_some, w64_id (by omega), bfloor_ok (by omega) hd.1 (by omega), Option.bind_some]
      have h1 := div_bd hd.1 hb
      have h2 := hs.nz i hi
      have h3 := h.noise_b hi
      rw [w64_id (by omega), app_ok (by simp; omega), Option.bind_some, w64n i (by omega)]
    · intro k hk a
      unfold ref02_Step_s0
      dsimp only
      rw [lt_nat (by omega), cond_true, idx_gi (by omega), Option.bind_some, ei, Option.bind_some, idx_gr (by omega), Option.bind_some, idx_gi (by rw [h.row_len hm hi]; exact hk), Option.bind_some, w64_add', w64n k (by omega)]
      rfl
    · intro a
      unfold ref02_Step_s0
      dsimp only
      rw [← hxl, lt_nat_no]; rfl
  · intro acc
    unfold ref02_Step_s1
    dsimp only
    rw [← hxl, lt_nat_no]; rfl
end Go.Gw

end
section
set_option maxRecDepth 8192
set_option linter.unusedSimpArgs false
set_option linter.unusedVariables false
namespace Go.Gw
open Go

theorem Bx.rng {p : LevitatePlant} {x : List Int} (h : Bx p x) : ∀ k, k < p.Noise.length → 0 ≤ gi x k ∧ gi x k ≤ 100000 := fun k hk => ⟨h.ge k (by rw [h.len]; exact hk), h.le k (by rw [h.len]; exact hk)⟩
/-! ### What lies in a box -/
end Go.Gw

end
section
set_option maxRecDepth 8192
set_option linter.unusedSimpArgs false
set_option linter.unusedVariables false
namespace Go.Gw
open Go

theorem mk_ok {α : Type} {n : Nat} {z : α} (h : n ≤ 1048576) : mk (n : Int) z = some (List.replicate n z) := by
  unfold mk; rw [if_pos (by omega), Int.toNat_natCast]
theorem gi_rep {n k : Nat} : gi (List.replicate n 0) k = 0 := by
  unfold gi; rw [List.getD_eq_getElem?_getD, List.getElem?_replicate]; split <;> rfl
end Go.Gw

end
section
set_option maxRecDepth 8192
set_option linter.unusedSimpArgs false
set_option linter.unusedVariables false
namespace Go.Gw
open Go

theorem brief_run (l : List LevitateSample) : Runs (law02_brief_spec l) fun b => b = true → (l.length ≤ 20 ∨ (60 < l.length ∧ l.length ≤ 62)) ∧ ∀ s ∈ l, s.Noise.length ≤ 5 := by
  unfold law02_brief_spec
  refine Runs.bif (fun _ => Runs.some (fun h => by cases h)) fun hc => ?_
  have h1 : l.length ≤ 20 ∨ (60 < l.length ∧ l.length ≤ 62) := by
    simp only [Bool.or_eq_false_iff, Bool.and_eq_false_iff, decide_eq_false_iff_not] at hc
    omega
  rw [loop_fs l (fun _ s => if 5 < s.Noise.length then some false else none), Option.bind_some]
  · cases hf : fs (fun (_ : Nat) (s : LevitateSample) => if 5 < s.Noise.length then some false else none) 0 l with
    | some b =>
      obtain ⟨i, hi, h2⟩ := fs_mem hf
      split at h2
      · cases h2; exact ⟨false, rfl, fun h => by cases h⟩
      · cases h2
    | none =>
      refine ⟨true, rfl, fun _ => ⟨h1, fun s hs => ?_⟩⟩
      obtain ⟨i, hi, rfl⟩ := List.mem_iff_getElem.1 hs
      have h2 := fs_none.1 hf i hi
      split at h2
      · cases h2
      · omega
  · intro k hk
    unfold law02_brief_s0
    rw [lt_nat hk, idx_nat hk, w64n k (by omega), cond_true, Option.bind_some]
    by_cases h2 : 5 < l[k].Noise.length
    · rw [decide_eq_true (by omega), if_pos h2]; rfl
    · rw [decide_eq_false (by omega), if_neg h2]; rfl
  · unfold law02_brief_s0
    rw [lt_nat_no]; rfl
theorem CopySamples_ok (l : List LevitateSample) (h : l.length ≤ 1000000) (hs : ∀ s ∈ l, s.Noise.length ≤ 1000000) : ref02_CopySamples_spec l = some l := by
  unfold ref02_CopySamples_spec
  rw [loop_map l id]
  · simp
  · intro k hk acc ha
    unfold ref02_CopySamples_s0
    dsimp only
    rw [lt_nat hk, cond_true, idx_nat hk, Option.bind_some, CopySample_ok _ (by have := hs _ (List.getElem_mem hk); omega), Option.bind_some, app_ok (by simp; omega), Option.bind_some, w64n k (by omega)]; rfl
  · intro acc
    unfold ref02_CopySamples_s0
    dsimp only
    rw [lt_nat_no]; rfl
theorem rRun_ok {p : LevitatePlant} (h : Rp p) {l : List LevitateSample} (hl : l.length < 1000) (hs : ∀ s ∈ l, Sm p s) {x : List Int} (hx : Stt p x) : ref02_Run_spec p x l = some (match rnV p x l with | some ys => (ys, true) | none => ([], false)) := by
  unfold ref02_Run_spec
  have key : ∀ (r l0 : List LevitateSample) (x : List Int) (acc : List (List Int)), l = l0 ++ r → acc.length = l0.length → Stt p x →
      loop (ref02_Run_s0 l p) (x, acc, (l0.length : Int)) = some (match rnV p x r with | some ys => .inr (acc ++ ys) | none => .inl ([], false)) := by
    intro r
    induction r with
    | nil =>
      intro l0 x acc he ha hx
      refine loop_inr ?_
      unfold ref02_Run_s0
      dsimp only
      rw [he, List.append_nil, lt_nat_no]
      simp [rnV]
    | cons s r ih =>
      intro l0 x acc he ha hx
      have hlt : l0.length < l.length := by rw [he]; simp
      have hel : l[l0.length]'hlt = s := by simp [he]
      have hsm := hs s (by rw [he]; simp)
      have hsl := stepI_len p x s
      have hn := h.n3
      have st : ref02_Run_s0 l p (x, acc, (l0.length : Int)) = if (stepI p x s).all (smallB 100000) then some (.inl (stepI p x s, acc ++ [stepI p x s], ((l0 ++ [s]).length : Int))) else some (.inr (.inl ([], false))) := by
        unfold ref02_Run_s0
        dsimp only
        rw [lt_nat hlt, cond_true, idx_nat hlt, Option.bind_some, hel, rStep_ok h hx hsm, Option.bind_some, rStateErr_ok _ _ (by omega), Option.bind_some]
        cases hb : (stepI p x s).all (smallB 100000) with
        | false =>
          have h4 : stE p (stepI p x s) ≠ 0 := fun h => by have := stepI_stt.1 (stE_right.1 h); rw [hb] at this; cases this
          rw [decide_eq_false h4]; rfl
        | true =>
          rw [stE_right.2 (stepI_stt.2 hb), app_ok (by simp; omega), w64n _ (by omega)]
          simp
      cases hb : (stepI p x s).all (smallB 100000) with
      | false =>
        rw [hb] at st
        rw [loop_inr st, rnV, if_neg (by simp [hb])]
      | true =>
        rw [hb] at st
        rw [loop_inl st, ih (l0 ++ [s]) _ _ (by rw [he]; simp) (by simp [ha]) (stepI_stt.2 hb), rnV, if_pos hb]
        cases rnV p (stepI p x s) r <;> simp
  have := key l [] x [] rfl rfl hx
  change loop (ref02_Run_s0 l p) (x, [], 0) = _ at this
  rw [this]
  cases rnV p x l <;> rfl
theorem Lists_ok (a b : List (List Int)) (ha : a.length < 1000000) (hr : ∀ r ∈ a, r.length < 1000000) : base_Lists_spec a b = some (decide (a = b)) := by
  unfold base_Lists_spec
  rw [len_dec]
  by_cases hl : a.length = b.length
  · rw [decide_eq_true hl]
    simp only [Bool.not_true, cond_false]
    rw [loop_fs a (fun k r => if decide (r = gr b k) then none else some false), Option.bind_some]
    · cases hf : fs (fun k r => if decide (r = gr b k) then none else some false) 0 a with
      | some c =>
        obtain ⟨i, hi, h2⟩ := fs_mem hf
        split at h2
        · cases h2
        · rename_i h3
          cases h2
          have : a ≠ b := fun h => h3 (by subst h; rw [Nat.zero_add, gr_eq hi]; simp)
          rw [decide_eq_false this]; rfl
      | none =>
        have : a = b := List.ext_getElem hl fun i h1 h2 => by
          have h3 := fs_none.1 hf i h1
          split at h3
          · rename_i h4
            rw [Nat.zero_add, decide_eq_true_eq] at h4
            rw [h4, gr_eq h2]
          · cases h3
        rw [decide_eq_true this]; rfl
    · intro k hk
      unfold base_Lists_s0
      rw [lt_nat hk, cond_true, idx_nat hk, Option.bind_some, idx_gr (by omega), Option.bind_some, Ints_ok _ _ (by have := hr _ (List.getElem_mem hk); omega), Option.bind_some, w64n k (by omega)]
      cases decide (a[k] = gr b k) <;> rfl
    · unfold base_Lists_s0
      rw [lt_nat_no]; rfl
  · rw [decide_eq_false hl, decide_eq_false (fun h => hl (by rw [h]))]; rfl
theorem rnV_len {p : LevitatePlant} : ∀ {l : List LevitateSample} {x : List Int} {ys : List (List Int)}, rnV p x l = some ys → ys.length = l.length ∧ ∀ y ∈ ys, Stt p y
  | [], _, _, h => by cases h; exact ⟨rfl, fun _ h => by cases h⟩
  | s :: l, x, ys, h => by
    rw [rnV] at h
    split at h
    · rename_i hb
      cases h1 : rnV p (stepI p x s) l with
      | none => rw [h1] at h; cases h
      | some zs =>
        rw [h1] at h
        cases h
        have := rnV_len h1
        refine ⟨by simp [this.1], fun y hy => ?_⟩
        rcases List.mem_cons.1 hy with rfl | hy
        · exact stepI_stt.2 hb
        · exact this.2 y hy
    · cases h
end Go.Gw

end
section
set_option maxRecDepth 8192
set_option linter.unusedSimpArgs false
set_option linter.unusedVariables false
namespace Go.Gw
open Go

def mxS (a : Int) (l : List (List Int)) (i : Nat) : Int := l.foldl (fun m y => if m < ((gi y i).natAbs : Int) then ((gi y i).natAbs : Int) else m) a
theorem mxS_char : ∀ (l : List (List Int)) (a : Int) (i : Nat), a ≤ mxS a l i ∧ (∀ y ∈ l, ((gi y i).natAbs : Int) ≤ mxS a l i) ∧ (mxS a l i = a ∨ ∃ y ∈ l, mxS a l i = ((gi y i).natAbs : Int))
  | [], a, i => ⟨Int.le_refl _, (fun _ h => nomatch h), .inl rfl⟩
  | y :: l, a, i => by
    have e : mxS a (y :: l) i = mxS (if a < ((gi y i).natAbs : Int) then ((gi y i).natAbs : Int) else a) l i := rfl
    obtain ⟨h1, h2, h3⟩ := mxS_char l (if a < ((gi y i).natAbs : Int) then ((gi y i).natAbs : Int) else a) i
    rw [← e] at h1 h2 h3
    by_cases hlt : a < ((gi y i).natAbs : Int)
    · rw [if_pos hlt] at h1 h3
      refine ⟨by omega, fun z hz => ?_, .inr ?_⟩
      · rcases List.mem_cons.1 hz with rfl | hz
        · exact h1
        · exact h2 z hz
      · rcases h3 with h3 | ⟨z, hz, h3⟩
        · exact ⟨y, by simp, h3⟩
        · exact ⟨z, by simp [hz], h3⟩
    · rw [if_neg hlt] at h1 h3
      refine ⟨h1, fun z hz => ?_, ?_⟩
      · rcases List.mem_cons.1 hz with rfl | hz
        · omega
        · exact h2 z hz
      · rcases h3 with h3 | ⟨z, hz, h3⟩
        · exact .inl h3
        · exact .inr ⟨z, by simp [hz], h3⟩
theorem mxS_turn (ys : List (List Int)) (x : List Int) (i : Nat) : mxS 0 (ys ++ [x]) i = mxS ((gi x i).natAbs : Int) ys i := by
  obtain ⟨a1, a2, a3⟩ := mxS_char (ys ++ [x]) 0 i
  obtain ⟨b1, b2, b3⟩ := mxS_char ys ((gi x i).natAbs : Int) i
  have h1 := a2 x (by simp)
  have hle : mxS ((gi x i).natAbs : Int) ys i ≤ mxS 0 (ys ++ [x]) i := by
    rcases b3 with h | ⟨y, hy, h⟩
    · omega
    · rw [h]; exact a2 y (by simp [hy])
  have hge : mxS 0 (ys ++ [x]) i ≤ mxS ((gi x i).natAbs : Int) ys i := by
    rcases a3 with h | ⟨y, hy, h⟩
    · omega
    · rw [h]
      rcases List.mem_append.1 hy with hy | hy
      · exact b2 y hy
      · rcases List.mem_singleton.1 hy with rfl; exact b1
  omega
def mxL (n : Nat) (a : List Int) (y : List Int) : List Int := tab n fun i => if gi a i < ((gi y i).natAbs : Int) then ((gi y i).natAbs : Int) else gi a i
theorem exc_in {n : Nat} {a y : List Int} (ha : a.length = n) (hy : y.length = n) (hn : n < 1000000) (hb : ∀ i, i < n → -4000000000000000000 ≤ gi y i ∧ gi y i ≤ 4000000000000000000) : loop (levitate_Excursion_s0 y) (a, 0) = some (mxL n a y) := by
  have key : ∀ j k (b : List Int), j + k = n → b.length = n → (∀ i, i < n → gi b i = if i < k then (if gi a i < ((gi y i).natAbs : Int) then ((gi y i).natAbs : Int) else gi a i) else gi a i) → loop (levitate_Excursion_s0 y) (b, (k : Int)) = some (mxL n a y) := by
    intro j
    induction j with
    | zero =>
      intro k b hk hb' hg
      obtain rfl : k = n := by omega
      have e : b = mxL k a y := list_ext_gi (by simp [mxL, tab_len, hb']) fun i hi => by unfold mxL; rw [gi_tab (show i < k by omega), hg i (by omega), if_pos (show i < k by omega)]
      refine loop_inr ?_
      unfold levitate_Excursion_s0
      dsimp only
      rw [hy, lt_nat_no, ← e]; rfl
    | succ j ih =>
      intro k b hk hb' hg
      have hlt : k < n := by omega
      have st : levitate_Excursion_s0 y (b, (k : Int)) = some (.inl (b.set k (if gi a k < ((gi y k).natAbs : Int) then ((gi y k).natAbs : Int) else gi a k), ((k + 1 : Nat) : Int))) := by
        unfold levitate_Excursion_s0
        dsimp only
        rw [hy, lt_nat hlt, cond_true, idx_gi (by omega), Option.bind_some, idx_gi (by omega), Option.bind_some, lsize_ok (by have := hb k hlt; omega), Option.bind_some, Option.bind_some, w64n k (by omega), hg k hlt, if_neg (Nat.lt_irrefl k), Int.toNat_natCast]
      rw [loop_inl st]
      refine ih (k + 1) _ (by omega) (by simp [hb']) fun i hi => ?_
      rw [gi_set (by omega)]
      by_cases hik : k = i
      · subst hik; rw [if_pos rfl, if_pos (Nat.lt_succ_self k)]
      · rw [if_neg hik, hg i hi]
        by_cases hi2 : i < k
        · rw [if_pos hi2, if_pos (show i < k + 1 by omega)]
        · rw [if_neg hi2, if_neg (show ¬ i < k + 1 by omega)]
  exact key n 0 a (by omega) ha fun i hi => by rw [if_neg (Nat.not_lt_zero i)]
theorem exc_out {n : Nat} {zs : List (List Int)} (hz : ∀ y ∈ zs, y.length = n ∧ ∀ i, i < n → -4000000000000000000 ≤ gi y i ∧ gi y i ≤ 4000000000000000000) (hn : n < 1000000) (hl : zs.length < 1000000) :
    loop (levitate_Excursion_s1 zs) (List.replicate n 0, 0) = some (tab n fun i => mxS 0 zs i) := by
  have h := loop_fld (step := levitate_Excursion_s1 zs) zs (fun _ a y => mxL n a y) (fun a k => (a, (k : Int))) (fun a => a) (fun a k => a.length = n) (List.replicate n 0) (by simp) (fun k hk a ha => by
    have hy := hz _ (List.getElem_mem hk)
    refine ⟨?_, tab_len _ _⟩
    unfold levitate_Excursion_s1
    dsimp only
    rw [lt_nat hk, cond_true, idx_nat hk, Option.bind_some, exc_in ha hy.1 hn hy.2, Option.bind_some, w64n k (by omega)]) (fun a ha => by
    unfold levitate_Excursion_s1
    dsimp only
    rw [lt_nat_no]; rfl)
  have h1 := h.1
  change loop (levitate_Excursion_s1 zs) (List.replicate n 0, 0) = _ at h1
  rw [h1]
  have gen : ∀ (l : List (List Int)) (k : Nat) (a : List Int), a.length = n → fld (fun _ a y => mxL n a y) k a l = tab n fun i => mxS (gi a i) l i := by
    intro l
    induction l with
    | nil => intro k a ha; exact list_ext_gi (by rw [tab_len]; exact ha) fun i hi => by rw [gi_tab (by have : (fld (fun _ a y => mxL n a y) k a []).length = n := ha; omega)]; rfl
    | cons y l ih =>
      intro k a ha
      show fld (fun _ a y => mxL n a y) (k + 1) (mxL n a y) l = _
      rw [ih _ _ (by simp [mxL, tab_len])]
      refine list_ext_gi (by rw [tab_len, tab_len]) fun i hi => ?_
      rw [tab_len] at hi
      rw [gi_tab hi, gi_tab hi]
      unfold mxL
      rw [gi_tab hi]; rfl
  rw [gen zs 0 _ (by simp)]
  congr 1
  refine list_ext_gi (by rw [tab_len, tab_len]) fun i hi => ?_
  rw [tab_len] at hi
  rw [gi_tab hi, gi_tab hi, gi_rep]
def excR (p : LevitatePlant) (x : List Int) (l : List LevitateSample) : List Int × Int := if (runR p x l).2 = 0 then (tab x.length fun i => mxS 0 ((runR p x l).1 ++ [x]) i, 0) else ([], (runR p x l).2)
theorem runR_zero {p : LevitatePlant} {x : List Int} {l : List LevitateSample} (h : (runR p x l).2 = 0) : Rp p ∧ Stt p x ∧ l.length ≤ 60 ∧ (∀ s ∈ l, Sm p s) ∧ ∃ ys, rnV p x l = some ys ∧ runR p x l = (ys, 0) := by
  unfold runR at h ⊢
  by_cases h0 : opR p x l = 0
  · rw [if_pos h0] at h ⊢
    have h1 := h0
    unfold opR at h1
    by_cases a1 : (ckP p).2 = 0
    · by_cases a2 : stE p x = 0
      · by_cases a3 : l.length ≤ 60
        · simp only [a1, a2, a3, ne_eq, not_true_eq_false, if_false, if_true] at h1
          refine ⟨ckP_right.1 a1, stE_right.1 a2, a3, smsE_right.1 (by first | exact h1 | (simpa using h1) | (split at h1 <;> first | omega | exact h1)), ?_⟩
          cases hr : rnV p x l with
          | some ys => exact ⟨ys, rfl, rfl⟩
          | none => rw [hr] at h; cases h
        · exfalso; simp [a1, a2, a3] at h1 <;> omega
      · exfalso; simp [a1, a2] at h1
    · exfalso; simp [a1] at h1
  · rw [if_neg h0] at h; exact absurd h h0
theorem lExc_ok {p : LevitatePlant} (h : Sh p) {x : List Int} (hx : x.length < 1000) {l : List LevitateSample} (hl : l.length < 1000) (hs : ∀ s ∈ l, s.Noise.length < 1073741824) : levitate_Excursion_spec p x l = some (excR p x l) := by
  unfold levitate_Excursion_spec excR
  rw [RunOf_ok h (by omega) (by omega) hs, Option.bind_some]
  by_cases h0 : (runR p x l).2 = 0
  · obtain ⟨hp, hst, h60, hsm, ys, hy, he⟩ := runR_zero h0
    have hyl := rnV_len hy
    have hxl := hst.len
    rw [he]
    simp only [decide_true, Bool.not_true, cond_false, if_true]
    rw [mk_ok (by omega), Option.bind_some, app_ok (by simp; omega), Option.bind_some, exc_out (n := x.length)]
    · rfl
    · intro y hy'
      rcases List.mem_append.1 hy' with hy' | hy'
      · have := hyl.2 y hy'
        exact ⟨by rw [this.len, hxl], fun i hi => by have := this.bd i (by omega); omega⟩
      · rcases List.mem_singleton.1 hy' with rfl
        exact ⟨rfl, fun i hi => by have := hst.bd i (by omega); omega⟩
    · omega
    · simp; omega
  · simp [h0]
end Go.Gw

end
