/- Levitate in plain words: boxes by the specification, kept boxes, how a box is left. Condition: right plants. -/
import Derived.Test.YtglaeocolbnpdaaGreatGwLev14
set_option maxRecDepth 8192
set_option linter.unusedSimpArgs false
set_option linter.unusedVariables false
namespace Go.Gw
open Go

theorem Bx.rng {p : LevitatePlant} {x : List Int} (h : Bx p x) : ∀ k, k < p.Noise.length → 0 ≤ gi x k ∧ gi x k ≤ 100000 := fun k hk => ⟨h.ge k (by rw [h.len]; exact hk), h.le k (by rw [h.len]; exact hk)⟩
def cbV (p : LevitatePlant) (x : List Int) : LevitateMark × Int := if opB p x = 0 then ((brkV (brk p x)).1, if (brkV (brk p x)).2 then 24 else 0) else (⟨0, 0⟩, opB p x)
theorem opB_right {p : LevitatePlant} {x : List Int} (h : opB p x = 0) : Rp p ∧ Bx p x := by
  unfold opB at h
  split at h
  · exact absurd h (by assumption)
  · rename_i h1; exact ⟨ckP_right.1 (Classical.not_not.1 h1), bxE_right.1 h⟩
theorem opB_zero {p : LevitatePlant} {x : List Int} (h : Rp p) (hx : Bx p x) : opB p x = 0 := by unfold opB; rw [h.ck, bxE_right.2 hx]; simp
theorem CheckBox_ok {p : LevitatePlant} (h : Sh p) {x : List Int} (hx : x.length < 1073741824) : levitate_CheckBox_spec p x = some (cbV p x) := by
  unfold levitate_CheckBox_spec cbV
  rw [lopenBox_ok p x h hx, Option.bind_some]
  by_cases h0 : opB p x = 0
  · obtain ⟨hp, hb⟩ := opB_right h0
    rw [if_pos h0, decide_eq_true h0]
    simp only [Bool.not_true, cond_false]
    change Option.bind (levitate_plant_broken_spec ⟨p⟩ x) _ = _
    rw [broken_ok hp hb.len hb.rng, Option.bind_some, lunless_ok, Option.bind_some]
    cases (brkV (brk p x)).2 <;> rfl
  · rw [if_neg h0, decide_eq_false h0]; rfl
/-! ### What lies in a box -/
def liesB (x box : List Int) : Bool := (List.range x.length).all fun k => smallB (gi box k) (gi x k)
theorem lies_ok {x box : List Int} (hl : x.length = box.length) (h1 : x.length ≤ 1000) (hb : ∀ k, k < box.length → 0 ≤ gi box k ∧ gi box k ≤ 4000000000000000000) : law02_lies_spec x box = some (liesB x box) := by
  unfold law02_lies_spec
  rw [loop_fs x (fun k _ => if smallB (gi box k) (gi x k) then none else some false), Option.bind_some, fs_all (fun k => smallB (gi box k) (gi x k)) false x 0]
  · unfold liesB
    simp only [Nat.zero_add]
    cases (List.range x.length).all fun k => smallB (gi box k) (gi x k) <;> rfl
  · intro k hk
    unfold law02_lies_s0
    have := hb k (by omega)
    rw [lt_nat hk, idx_gi hk, w64n k (by omega), cond_true, Option.bind_some, idx_gi (by omega), Option.bind_some, Option.bind_some, show w64 (0 - gi box k) = -gi box k by rw [w64_id (by omega)]; omega, bwithin_ok, Option.bind_some]
    change (bif !smallB (gi box k) (gi x k) then _ else _) = _
    cases smallB (gi box k) (gi x k) <;> rfl
  · unfold law02_lies_s0
    rw [lt_nat_no]; rfl
theorem lies_iff {x box : List Int} : liesB x box = true ↔ ∀ k, k < x.length → -gi box k ≤ gi x k ∧ gi x k ≤ gi box k := by
  unfold liesB
  rw [List.all_eq_true]
  constructor
  · intro h k hk; exact (small_iff _ _).1 (h k (List.mem_range.2 hk))
  · intro h k hk; exact (small_iff _ _).2 (h k (List.mem_range.1 hk))
end Go.Gw
