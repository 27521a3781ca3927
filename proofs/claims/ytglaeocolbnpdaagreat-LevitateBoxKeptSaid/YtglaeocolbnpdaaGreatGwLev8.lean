/- Copies, lists held together, the opposite order; the example of the plant. Condition: lists are short. -/
import Derived.Test.YtglaeocolbnpdaaGreatGwLev7
set_option maxRecDepth 4096
set_option linter.unusedSimpArgs false
set_option linter.unusedVariables false
namespace Go.Gw
open Go

theorem loop_mapS {α β : Type} {step : (Int × List β) → Option ((Int × List β) ⊕ List β)} (xs : List α) (g : α → β)
    (hs : ∀ k (hk : k < xs.length) (acc : List β), acc.length = k → step ((k : Int), acc) = some (.inl (((k + 1 : Nat) : Int), acc ++ [g xs[k]]))) (he : ∀ acc, step ((xs.length : Int), acc) = some (.inr acc)) :
    loop step (0, []) = some (xs.map g) := by
  have key : ∀ k, k ≤ xs.length → loop step (0, []) = loop step ((k : Int), (xs.take k).map g) := by
    intro k
    induction k with
    | zero => intro _; rfl
    | succ k ih =>
      intro hk
      rw [ih (by omega)]
      refine (loop_inl (hs k (by omega) _ (by simp; omega))).trans ?_
      have e : (xs.take (k + 1)).map g = (xs.take k).map g ++ [g xs[k]] := by rw [List.take_succ_eq_append_getElem (by omega), List.map_append]; rfl
      rw [e]
  rw [key _ (Nat.le_refl _), List.take_length]
  exact loop_inr (he _)
theorem CopyInts_ok (l : List Int) (h : l.length ≤ 1073741824) : base_CopyInts_spec l = some l := by
  unfold base_CopyInts_spec; rw [app_ok (by simpa using h)]; simp
theorem CopyLists_ok (l : List (List Int)) (h : l.length ≤ 1073741824) (hr : ∀ r ∈ l, r.length ≤ 1073741824) : base_CopyLists_spec l = some l := by
  unfold base_CopyLists_spec
  rw [loop_map l id]
  · simp
  · intro k hk acc hacc
    unfold base_CopyLists_s0
    dsimp only
    rw [lt_nat hk, cond_true, idx_nat hk, Option.bind_some, CopyInts_ok _ (hr _ (List.getElem_mem hk)), Option.bind_some, app_ok (by simp [hacc]; omega), Option.bind_some, w64n k (by omega)]; rfl
  · intro acc
    unfold base_CopyLists_s0
    dsimp only
    rw [lt_nat_no]; rfl
theorem CopyPlant_ok (p : LevitatePlant) (h : Sh p) : ref02_CopyPlant_spec p = some p := by
  unfold ref02_CopyPlant_spec
  rw [CopyInts_ok _ (by have := h.noise; omega), Option.bind_some, loop_mapS p.Maps id]
  · simp
  · intro k hk acc hacc
    unfold ref02_CopyPlant_s0
    dsimp only
    have hm := List.getElem_mem hk
    rw [lt_nat hk, cond_true, idx_nat hk, Option.bind_some, CopyLists_ok _ (by have := h.rows _ hm; omega) (fun r hr => by have := h.row _ hm _ hr; omega), Option.bind_some, app_ok (by simp [hacc]; have := h.maps; omega), Option.bind_some, w64n k (by have := h.maps; omega)]; rfl
  · intro acc
    unfold ref02_CopyPlant_s0
    dsimp only
    rw [lt_nat_no]; rfl
theorem Ints_ok (a b : List Int) (h : a.length < 1073741824) : base_Ints_spec a b = some (decide (a = b)) := by
  unfold base_Ints_spec
  rw [len_dec]
  by_cases hl : a.length = b.length
  · rw [loop_fs a (fun k x => if gi b k = x then none else some false)]
    · simp only [hl, decide_true, Bool.not_true, cond_false, Option.bind_some]
      cases hf : fs (fun k x => if gi b k = x then none else some false) 0 a with
      | none =>
        rw [fs_none] at hf
        have : a = b := list_ext_gi hl fun k hk => by
          have := hf k hk
          simp only [Nat.zero_add] at this
          split at this
          · rename_i e; rw [← gi_eq hk]; exact e.symm
          · cases this
        simp [oi, jn0, this]
      | some r =>
        obtain ⟨k, hk, h1⟩ := fs_mem hf
        simp only [Nat.zero_add] at h1
        split at h1
        · cases h1
        · rename_i e
          cases h1
          have : ¬ a = b := fun e2 => by subst e2; exact e (gi_eq hk).symm
          simp [oi, jn0, this]
    · intro k hk
      unfold base_Ints_s0
      rw [lt_nat hk, cond_true, idx_nat hk, Option.bind_some, idx_gi (by omega), Option.bind_some, w64n k (by omega)]
      by_cases e : gi b k = a[k]
      · simp [e, fsS]
      · have e' : ¬ a[k] = gi b k := fun h => e h.symm
        simp [e, e', fsS]
    · unfold base_Ints_s0
      rw [lt_nat_no]; rfl
  · have : ¬ a = b := fun e => hl (by rw [e])
    simp [hl, this]

/-! ### Which plants have few parts -/
theorem Few_run (p : LevitatePlant) : Runs (law02_Few_spec p) fun b => b = true → p.Noise.length ≤ 5 ∧ p.Maps.length ≤ 6 ∧ ∀ m ∈ p.Maps, m.length ≤ 5 ∧ ∀ r ∈ m, r.length ≤ 5 := by
  unfold law02_Few_spec
  by_cases h1 : 5 < (p.Noise.length : Int)
  · rw [decide_eq_true h1]; exact Runs.some fun h => by cases h
  · by_cases h2 : 6 < (p.Maps.length : Int)
    · rw [decide_eq_true h2, decide_eq_false h1]; exact Runs.some fun h => by cases h
    · rw [decide_eq_false h1, decide_eq_false h2]
      simp only [Bool.or_self, cond_false]
      have hl : loop (law02_Few_s1 p) 0 = some (oi (fs (fun _ (m : List (List Int)) => if m.length ≤ 5 ∧ m.all (fun r => decide (r.length ≤ 5)) then none else some false) 0 p.Maps)) := by
        refine loop_fs p.Maps _ (fun k hk => ?_) ?_
        · unfold law02_Few_s1
          rw [lt_nat hk, cond_true, idx_nat hk, Option.bind_some]
          by_cases h3 : 5 < (p.Maps[k].length : Int)
          · have : ¬ p.Maps[k].length ≤ 5 := by omega
            simp [h3, this, fsS]
          · have h3' : p.Maps[k].length ≤ 5 := by omega
            rw [decide_eq_false h3, cond_false]
            have hin : loop (law02_Few_s0 p (k : Int)) 0 = some (oi (if p.Maps[k].all (fun r => decide (r.length ≤ 5)) then none else some (.inr (.inl false) : Int ⊕ (Bool ⊕ Unit)))) := by
              rw [loop_fs p.Maps[k] (fun _ r => if decide (r.length ≤ 5) then none else some (.inr (.inl false) : Int ⊕ (Bool ⊕ Unit)))]
              · have : ∀ (l : List (List Int)) t, fs (fun _ r => if decide (r.length ≤ 5) then none else some (.inr (.inl false) : Int ⊕ (Bool ⊕ Unit))) t l = if l.all (fun r => decide (r.length ≤ 5)) then none else some (.inr (.inl false)) := by
                  intro l
                  induction l with
                  | nil => intro t; rfl
                  | cons y ys ih =>
                    intro t
                    by_cases hy : y.length ≤ 5
                    · simp [fs, hy]; simpa using ih (t + 1)
                    · simp [fs, hy]
                rw [this]
              · intro i hi
                unfold law02_Few_s0
                rw [idx_nat hk, Option.bind_some, lt_nat hi, cond_true, Option.bind_some, idx_nat hi, Option.bind_some, w64n i (by omega)]
                by_cases h4 : 5 < (p.Maps[k][i].length : Int)
                · have : ¬ p.Maps[k][i].length ≤ 5 := by omega
                  simp [h4, this, fsS]
                · have : p.Maps[k][i].length ≤ 5 := by omega
                  simp [h4, this, fsS]
              · unfold law02_Few_s0
                rw [idx_nat hk, Option.bind_some, lt_nat_no]; rfl
            rw [hin, Option.bind_some, w64n k (by omega)]
            cases h5 : p.Maps[k].all (fun r => decide (r.length ≤ 5)) <;> simp [h3', fsS, oi, jn0]
        · unfold law02_Few_s1
          rw [lt_nat_no]; rfl
      rw [hl]
      cases hf : fs (fun _ (m : List (List Int)) => if m.length ≤ 5 ∧ m.all (fun r => decide (r.length ≤ 5)) then none else some false) 0 p.Maps with
      | some r =>
        obtain ⟨k, hk, h6⟩ := fs_mem hf
        split at h6
        · cases h6
        · cases h6; exact Runs.some fun h => by cases h
      | none =>
        refine Runs.some fun _ => ⟨by omega, by omega, fun m hm => ?_⟩
        rw [fs_none] at hf
        obtain ⟨k, hk, rfl⟩ := List.getElem_of_mem hm
        have := hf k hk
        split at this
        · rename_i h7
          exact ⟨h7.1, fun r hr => by simpa using List.all_eq_true.1 h7.2 r hr⟩
        · cases this
theorem sh_few {p : LevitatePlant} (h : p.Noise.length ≤ 5 ∧ p.Maps.length ≤ 6 ∧ ∀ m ∈ p.Maps, m.length ≤ 5 ∧ ∀ r ∈ m, r.length ≤ 5) : Sh p :=
  ⟨by omega, by omega, fun m hm => by have := (h.2.2 m hm).1; omega, fun m hm r hr => by have := (h.2.2 m hm).2 r hr; omega⟩
/-! ### The opposite order -/
/-! ### The example -/
def exP : LevitatePlant := ⟨10, [[[5, 0], [2, 4]]], [3, 1]⟩
def exF : List (List Int) := [[1, 0], [0, 1]]
theorem exP_right : Rp exP := ckP_right.1 (by decide)
theorem exF_right : Rf exF := frmE_right.1 (by decide)
theorem ex_box : levitate_LeastBox_spec exP [0, 0] = some ([6, 4], 0) := by
  obtain ⟨r, hr, h1⟩ := lLeastBox_ok exP_right (bxE_right.1 (by decide) : Bx exP [0, 0])
  rw [hr]; congr 1
  refine h1.eq (.inl ⟨rfl, rfl, by decide, by decide, (show ∀ m, m < 1 → ∀ i, i < 2 → needI exP m i [6, 4] ≤ gi [6, 4] i from by decide), ?_⟩)
  intro K hK hs k hk
  have a0 := hK 0 (by decide) 0 (by decide)
  have a1 := hK 0 (by decide) 1 (by decide)
  have s0 := hs 0 (by decide)
  have s1 := hs 1 (by decide)
  have e0 : needI exP 0 0 K = (0 + 5 * gi K 0 + 0 * gi K 1 + 10 - 1) / 10 + 3 := rfl
  have e1 : needI exP 0 1 K = (0 + 2 * gi K 0 + 4 * gi K 1 + 10 - 1) / 10 + 1 := rfl
  rw [e0] at a0
  rw [e1] at a1
  change (0 : Int) ≤ gi K 0 at s0
  change (0 : Int) ≤ gi K 1 at s1
  match k, hk with
  | 0, _ => show (6 : Int) ≤ gi K 0; omega
  | 1, _ => show (4 : Int) ≤ gi K 1; omega
theorem ex_kept (q : Int) : kptB q 20 ⟨1, 2⟩ = decide (234 ≤ q) := by
  unfold kptB
  have e1 : (2 - 1) * q - 2 * 20 = q - 40 := by omega
  have e2 : 4 * 1 * 2 * q * 20 = 160 * q := by omega
  have e3 : (q - 40) * (q - 40) = q * q - 80 * q + 1600 := by grind
  rw [e1, e2, e3]
  rw [Bool.eq_iff_iff]
  simp only [Bool.and_eq_true, decide_eq_true_eq]
  constructor
  · rintro ⟨h1, h2⟩
    apply Classical.byContradiction
    intro h3
    have h4 : 0 ≤ (q - 40) * (233 - q) := Int.mul_nonneg (by omega) (by omega)
    have h5 : (q - 40) * (233 - q) = 273 * q - q * q - 9320 := by grind
    omega
  · intro h
    have h4 : 0 ≤ (q - 234) * (q - 6) := Int.mul_nonneg (by omega) (by omega)
    have h5 : (q - 234) * (q - 6) = q * q - 240 * q + 1404 := by grind
    exact ⟨by omega, by omega⟩
theorem ex_level : levitate_LeastLevel_spec exP exF ⟨1, 2⟩ = some (234, 0) := by
  unfold levitate_LeastLevel_spec
  rw [proves_ok exP_right exF_right rfl]
  have e : pvV exP exF ⟨1, 2⟩ = (0, 0) := by decide
  rw [e]
  simp only [Option.bind_some, decide_true, Bool.not_true, cond_false]
  change Option.bind (levitate_plant_worst_spec ⟨exP⟩ exF) _ = _
  rw [worst_ok exP_right exF_right.sq exF_right.bd, Option.bind_some, show worstI exP exF = 20 by decide]
  obtain ⟨q, hq, h1, h2, h3, h4, h5⟩ := least61_run (worst := 20) (r := ⟨1, 2⟩) ⟨by decide, by decide⟩ (by decide)
  rw [hq, Option.bind_some]
  rw [ex_kept] at h3 h4
  have : q.1 = 234 := by
    simp only [decide_eq_true_eq, decide_eq_false_iff_not] at h3 h4
    omega
  rw [h5, this]; rfl
end Go.Gw
