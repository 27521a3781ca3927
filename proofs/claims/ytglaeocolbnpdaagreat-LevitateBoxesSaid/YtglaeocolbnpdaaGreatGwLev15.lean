/- Levitate in plain words: boxes by the specification, kept boxes, how a box is left. Condition: right plants. -/
import Derived.Test.YtglaeocolbnpdaaGreatGwLev14
set_option maxRecDepth 8192
set_option linter.unusedSimpArgs false
set_option linter.unusedVariables false
namespace Go.Gw
open Go

theorem rReach_ok {p : LevitatePlant} (h : Rp p) {m i : Nat} (hm : m < p.Maps.length) (hi : i < p.Noise.length) {box : List Int} (hl : box.length = p.Noise.length) (hb : ∀ k, k < p.Noise.length → 0 ≤ gi box k ∧ gi box k ≤ 100000) :
    ref02_Reach_spec p box ⟨(m : Int), (i : Int)⟩ = some (needI p m i box) := by
  unfold ref02_Reach_spec
  have hmi : i < (gm p m).length := by rw [h.sq _ (gm_mem hm)]; exact hi
  have hr := reach_b h hm hi hb
  rw [loop_sum (p.Noise.length) (fun k => ((ge p m i k).natAbs : Int) * gi box k)]
  · rw [Option.bind_some, idx_gi hi, Option.bind_some]
    change Option.bind (base_Ceil_spec (w64 (reach p m i box)) p.Den) _ = _
    have hn := h.noise_b hi
    have hd := h.den
    rw [w64_id (by omega), bceil_ok hr.1 (by omega) hd.1 (by omega), Option.bind_some]
    have h4 : 0 ≤ (reach p m i box + p.Den - 1) / p.Den := Int.ediv_nonneg (by omega) (by omega)
    have h5 : (reach p m i box + p.Den - 1) / p.Den ≤ reach p m i box + p.Den - 1 := Int.ediv_le_self _ (by omega)
    rw [w64_id (by omega)]; rfl
  · intro k hk a
    unfold ref02_Reach_s0
    have hrl := h.row_len hm hi
    dsimp only
    rw [hl, lt_nat hk, cond_true, idx_gi (by omega), Option.bind_some, idx_gm hm, Option.bind_some, idx_gr hmi, Option.bind_some, idx_gi (by rw [hrl]; exact hk), Option.bind_some]
    have hg := h.ge_b hm hi hk
    change Option.bind (base_Size_spec (ge p m i k)) _ = _
    rw [bsize_ok (by omega), Option.bind_some, w64_add', w64n k (by have := h.n3; omega)]
  · intro a
    unfold ref02_Reach_s0
    dsimp only
    rw [hl, lt_nat_no]; rfl
theorem rFirstOut_ok {p : LevitatePlant} (h : Rp p) {box : List Int} (hl : box.length = p.Noise.length) (hb : ∀ k, k < p.Noise.length → 0 ≤ gi box k ∧ gi box k ≤ 100000) :
    ref02_FirstOut_spec p box = some (brkV (brk p box)) := by
  unfold ref02_FirstOut_spec
  have hin : ∀ m, m < p.Maps.length → loop (ref02_FirstOut_s0 box p (m : Int)) 0 = some (oi ((brkRow p box m).map fun r => (.inr (.inl (brkV (some r))) : Int ⊕ ((LevitateMark × Bool) ⊕ Unit)))) := by
    intro m hm
    rw [loop_fs box (fun i b => (if b < needI p m i box then some (m, i) else none).map fun r => (.inr (.inl (brkV (some r))) : Int ⊕ ((LevitateMark × Bool) ⊕ Unit)))]
    · rw [map_fs]; rfl
    · intro k hk
      unfold ref02_FirstOut_s0
      rw [lt_nat hk, idx_nat hk, cond_true, Option.bind_some, rReach_ok h hm (by omega) hl hb, Option.bind_some, w64n k (by have := h.n3; omega)]
      by_cases hlt : box[k] < needI p m k box <;> simp [hlt, fsS, brkV]
    · unfold ref02_FirstOut_s0
      rw [lt_nat_no]; rfl
  rw [loop_fs p.Maps (fun m _ => (brkRow p box m).map fun r => brkV (some r))]
  · rw [map_fs (fun r => brkV (some r)) (fun m _ => brkRow p box m)]
    unfold brk
    cases fs (fun m _ => brkRow p box m) 0 p.Maps <;> rfl
  · intro m hm
    unfold ref02_FirstOut_s1
    rw [lt_nat hm, cond_true, hin m hm, Option.bind_some, w64n m (by have := h.m4; omega)]
    cases brkRow p box m <;> rfl
  · unfold ref02_FirstOut_s1
    rw [lt_nat_no]; rfl
theorem Bx.rng {p : LevitatePlant} {x : List Int} (h : Bx p x) : ∀ k, k < p.Noise.length → 0 ≤ gi x k ∧ gi x k ≤ 100000 := fun k hk => ⟨h.ge k (by rw [h.len]; exact hk), h.le k (by rw [h.len]; exact hk)⟩
def cbV (p : LevitatePlant) (x : List Int) : LevitateMark × Int := if opB p x = 0 then ((brkV (brk p x)).1, if (brkV (brk p x)).2 then 24 else 0) else (⟨0, 0⟩, opB p x)
theorem opB_right {p : LevitatePlant} {x : List Int} (h : opB p x = 0) : Rp p ∧ Bx p x := by
  unfold opB at h
  split at h
  · exact absurd h (by assumption)
  · rename_i h1; exact ⟨ckP_right.1 (Classical.not_not.1 h1), bxE_right.1 h⟩
theorem CheckBox_ok {p : LevitatePlant} (h : Sh p) {x : List Int} (hx : x.length < 1073741824) : levitate_CheckBox_spec p x = some (cbV p x) := by
  unfold levitate_CheckBox_spec cbV
  rw [lopenBox_ok p x h hx, Option.bind_some]
  by_cases h0 : opB p x = 0
  · obtain ⟨hp, hb⟩ := opB_right h0
    rw [if_pos h0, decide_eq_true h0]
    simp only [Bool.not_true, cond_false]
    change Option.bind (levitate_plant_broken_spec ⟨p⟩ x) _ = _
    rw [broken_ok hp hb.len hb.rng, Option.bind_some, lunless_ok, Option.bind_some]
    cases (brkV (brk p x)).2 <;> rfl
  · rw [if_neg h0, decide_eq_false h0]; rfl
/-! ### What lies in a box -/
def liesB (x box : List Int) : Bool := (List.range x.length).all fun k => smallB (gi box k) (gi x k)
end Go.Gw
