/- Copies, lists held together, the opposite order; the example of the plant. Condition: lists are short. -/
import Derived.Test.YtglaeocolbnpdaaGreatGwLev7
set_option maxRecDepth 4096
set_option linter.unusedSimpArgs false
set_option linter.unusedVariables false
namespace Go.Gw
open Go

theorem CopyInts_ok (l : List Int) (h : l.length ≤ 1073741824) : base_CopyInts_spec l = some l := by
  unfold base_CopyInts_spec; rw [app_ok (by simpa using h)]; simp
theorem Ints_ok (a b : List Int) (h : a.length < 1073741824) : base_Ints_spec a b = some (decide (a = b)) := by
  unfold base_Ints_spec
  rw [len_dec]
  by_cases hl : a.length = b.length
  · rw [loop_fs a (fun k x => if gi b k = x then none else some false)]
    · simp only [hl, decide_true, Bool.not_true, cond_false, Option.bind_some]
      cases hf : fs (fun k x => if gi b k = x then none else some false) 0 a with
      | none =>
        rw [fs_none] at hf
        have : a = b := list_ext_gi hl fun k hk => by
          have := hf k hk
          simp only [Nat.zero_add] at this
          split at this
          · rename_i e; rw [← gi_eq hk]; exact e.symm
          · cases this
        simp [oi, jn0, this]
      | some r =>
        obtain ⟨k, hk, h1⟩ := fs_mem hf
        simp only [Nat.zero_add] at h1
        split at h1
        · cases h1
        · rename_i e
          cases h1
          have : ¬ a = b := fun e2 => by subst e2; exact e (gi_eq hk).symm
          simp [oi, jn0, this]
    · intro k hk
      unfold base_Ints_s0
      rw [lt_nat hk, cond_true, idx_nat hk, Option.bind_some, idx_gi (by omega), Option.bind_some, w64n k (by omega)]
      by_cases e : gi b k = a[k]
      · simp [e, fsS]
      · have e' : ¬ a[k] = gi b k := fun h => e h.symm
        simp [e, e', fsS]
    · unfold base_Ints_s0
      rw [lt_nat_no]; rfl
  · have : ¬ a = b := fun e => hl (by rw [e])
    simp [hl, this]

/-! ### Which plants have few parts -/
/-! ### The opposite order -/
/-! ### The example -/
def exP : LevitatePlant := ⟨10, [[[5, 0], [2, 4]]], [3, 1]⟩
def exF : List (List Int) := [[1, 0], [0, 1]]
theorem exP_right : Rp exP := ckP_right.1 (by decide)
theorem exF_right : Rf exF := frmE_right.1 (by decide)
theorem ex_box : levitate_LeastBox_spec exP [0, 0] = some ([6, 4], 0) := by
  obtain ⟨r, hr, h1⟩ := lLeastBox_ok exP_right (bxE_right.1 (by decide) : Bx exP [0, 0])
  rw [hr]; congr 1
  refine h1.eq (.inl ⟨rfl, rfl, by decide, by decide, (show ∀ m, m < 1 → ∀ i, i < 2 → needI exP m i [6, 4] ≤ gi [6, 4] i from by decide), ?_⟩)
  intro K hK hs k hk
  have a0 := hK 0 (by decide) 0 (by decide)
  have a1 := hK 0 (by decide) 1 (by decide)
  have s0 := hs 0 (by decide)
  have s1 := hs 1 (by decide)
  have e0 : needI exP 0 0 K = (0 + 5 * gi K 0 + 0 * gi K 1 + 10 - 1) / 10 + 3 := rfl
  have e1 : needI exP 0 1 K = (0 + 2 * gi K 0 + 4 * gi K 1 + 10 - 1) / 10 + 1 := rfl
  rw [e0] at a0
  rw [e1] at a1
  change (0 : Int) ≤ gi K 0 at s0
  change (0 : Int) ≤ gi K 1 at s1
  match k, hk with
  | 0, _ => show (6 : Int) ≤ gi K 0; omega
  | 1, _ => show (4 : Int) ≤ gi K 1; omega
theorem ex_kept (q : Int) : kptB q 20 ⟨1, 2⟩ = decide (234 ≤ q) := by
  unfold kptB
  have e1 : (2 - 1) * q - 2 * 20 = q - 40 := by omega
  have e2 : 4 * 1 * 2 * q * 20 = 160 * q := by omega
  have e3 : (q - 40) * (q - 40) = q * q - 80 * q + 1600 := by grind
  rw [e1, e2, e3]
  rw [Bool.eq_iff_iff]
  simp only [Bool.and_eq_true, decide_eq_true_eq]
  constructor
  · rintro ⟨h1, h2⟩
    apply Classical.byContradiction
    intro h3
    have h4 : 0 ≤ (q - 40) * (233 - q) := Int.mul_nonneg (by omega) (by omega)
    have h5 : (q - 40) * (233 - q) = 273 * q - q * q - 9320 := by grind
    omega
  · intro h
    have h4 : 0 ≤ (q - 234) * (q - 6) := Int.mul_nonneg (by omega) (by omega)
    have h5 : (q - 234) * (q - 6) = q * q - 240 * q + 1404 := by grind
    exact ⟨by omega, by omega⟩
theorem ex_level : levitate_LeastLevel_spec exP exF ⟨1, 2⟩ = some (234, 0) := by
  unfold levitate_LeastLevel_spec
  rw [proves_ok exP_right exF_right rfl]
  have e : pvV exP exF ⟨1, 2⟩ = (0, 0) := by decide
  rw [e]
  simp only [Option.bind_some, decide_true, Bool.not_true, cond_false]
  change Option.bind (levitate_plant_worst_spec ⟨exP⟩ exF) _ = _
  rw [worst_ok exP_right exF_right.sq exF_right.bd, Option.bind_some, show worstI exP exF = 20 by decide]
  obtain ⟨q, hq, h1, h2, h3, h4, h5⟩ := least61_run (worst := 20) (r := ⟨1, 2⟩) ⟨by decide, by decide⟩ (by decide)
  rw [hq, Option.bind_some]
  rw [ex_kept] at h3 h4
  have : q.1 = 234 := by
    simp only [decide_eq_true_eq, decide_eq_false_iff_not] at h3 h4
    omega
  rw [h5, this]; rfl
end Go.Gw
