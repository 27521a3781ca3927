/- Levitate in plain words: boxes by the specification, kept boxes, how a box is left. Condition: right plants. -/
import Derived.Test.YtglaeocolbnpdaaGreatGwLev14
set_option maxRecDepth 8192
set_option linter.unusedSimpArgs false
set_option linter.unusedVariables false
namespace Go.Gw
open Go

theorem rReach_ok {p : LevitatePlant} (h : Rp p) {m i : Nat} (hm : m < p.Maps.length) (hi : i < p.Noise.length) {box : List Int} (hl : box.length = p.Noise.length) (hb : ∀ k, k < p.Noise.length → 0 ≤ gi box k ∧ gi box k ≤ 100000) :
    ref02_Reach_spec p box ⟨(m : Int), (i : Int)⟩ = some (needI p m i box) := by
  unfold ref02_Reach_spec
  have hmi : i < (gm p m).length := by rw [h.sq _ (gm_mem hm)]; exact hi
  have hr := reach_b h hm hi hb
  rw [loop_sum (p.Noise.length) (fun k => ((ge p m i k).natAbs : Int) * gi box k)]
  · rw [Option.bind_some, idx_gi hi, Option.bind_some]
    change Option.bind (base_Ceil_spec (w64 (reach p m i box)) p.Den) _ = _
    have hn := h.noise_b hi
    have hd := h.den
    rw [w64_id (by omega), bceil_ok hr.1 (by omega) hd.1 (by omega), Option.bind_some]
    have h4 : 0 ≤ (reach p m i box + p.Den - 1) / p.Den := Int.ediv_nonneg (by omega) (by omega)
    have h5 : (reach p m i box + p.Den - 1) / p.Den ≤ reach p m i box + p.Den - 1 := Int.ediv_le_self _ (by omega)
    rw [w64_id (by omega)]; rfl
  · intro k hk a
    unfold ref02_Reach_s0
    have hrl := h.row_len hm hi
    dsimp only
    rw [hl, lt_nat hk, cond_true, idx_gi (by omega), Option.bind_some, idx_gm hm, Option.bind_some, idx_gr hmi, Option.bind_some, idx_gi (by rw [hrl]; exact hk), Option.bind_some]
    have hg := h.ge_b hm hi hk
    change Option.bind (base_Size_spec (ge p m i k)) _ = _
    rw [bsize_ok (by omega), Option.bind_some, w64_add', w64n k (by have := h.n3; omega)]
  · intro a
    unfold ref02_Reach_s0
    dsimp only
    rw [hl, lt_nat_no]; rfl
theorem rFirstOut_ok {p : LevitatePlant} (h : Rp p) {box : List Int} (hl : box.length = p.Noise.length) (hb : ∀ k, k < p.Noise.length → 0 ≤ gi box k ∧ gi box k ≤ 100000) :
    ref02_FirstOut_spec p box = some (brkV (brk p box)) := by
  unfold ref02_FirstOut_spec
  have hin : ∀ m, m < p.Maps.length → loop (ref02_FirstOut_s0 box p (m : Int)) 0 = some (oi ((brkRow p box m).map fun r => (.inr (.inl (brkV (some r))) : Int ⊕ ((LevitateMark × Bool) ⊕ Unit)))) := by
    intro m hm
    rw [loop_fs box (fun i b => (if b < needI p m i box then some (m, i) else none).map fun r => (.inr (.inl (brkV (some r))) : Int ⊕ ((LevitateMark × Bool) ⊕ Unit)))]
    · rw [map_fs]; rfl
    · intro k hk
      unfold ref02_FirstOut_s0
      rw [lt_nat hk, idx_nat hk, cond_true, Option.bind_some, rReach_ok h hm (by omega) hl hb, Option.bind_some, w64n k (by have := h.n3; omega)]
      by_cases hlt : box[k] < needI p m k box <;> simp [hlt, fsS, brkV]
    · unfold ref02_FirstOut_s0
      rw [lt_nat_no]; rfl
  rw [loop_fs p.Maps (fun m _ => (brkRow p box m).map fun r => brkV (some r))]
  · rw [map_fs (fun r => brkV (some r)) (fun m _ => brkRow p box m)]
    unfold brk
    cases fs (fun m _ => brkRow p box m) 0 p.Maps <;> rfl
  · intro m hm
    unfold ref02_FirstOut_s1
    rw [lt_nat hm, cond_true, hin m hm, Option.bind_some, w64n m (by have := h.m4; omega)]
    cases brkRow p box m <;> rfl
  · unfold ref02_FirstOut_s1
    rw [lt_nat_no]; rfl
theorem Bx.rng {p : LevitatePlant} {x : List Int} (h : Bx p x) : ∀ k, k < p.Noise.length → 0 ≤ gi x k ∧ gi x k ≤ 100000 := fun k hk => ⟨h.ge k (by rw [h.len]; exact hk), h.le k (by rw [h.len]; exact hk)⟩
def cbV (p : LevitatePlant) (x : List Int) : LevitateMark × Int := if opB p x = 0 then ((brkV (brk p x)).1, if (brkV (brk p x)).2 then 24 else 0) else (⟨0, 0⟩, opB p x)
theorem opB_right {p : LevitatePlant} {x : List Int} (h : opB p x = 0) : Rp p ∧ Bx p x := by
  unfold opB at h
  split at h
  · exact absurd h (by assumption)
  · rename_i h1; exact ⟨ckP_right.1 (Classical.not_not.1 h1), bxE_right.1 h⟩
theorem opB_zero {p : LevitatePlant} {x : List Int} (h : Rp p) (hx : Bx p x) : opB p x = 0 := by unfold opB; rw [h.ck, bxE_right.2 hx]; simp
theorem CheckBox_ok {p : LevitatePlant} (h : Sh p) {x : List Int} (hx : x.length < 1073741824) : levitate_CheckBox_spec p x = some (cbV p x) := by
  unfold levitate_CheckBox_spec cbV
  rw [lopenBox_ok p x h hx, Option.bind_some]
  by_cases h0 : opB p x = 0
  · obtain ⟨hp, hb⟩ := opB_right h0
    rw [if_pos h0, decide_eq_true h0]
    simp only [Bool.not_true, cond_false]
    change Option.bind (levitate_plant_broken_spec ⟨p⟩ x) _ = _
    rw [broken_ok hp hb.len hb.rng, Option.bind_some, lunless_ok, Option.bind_some]
    cases (brkV (brk p x)).2 <;> rfl
  · rw [if_neg h0, decide_eq_false h0]; rfl
theorem rLeastBox_ok {p : LevitatePlant} (h : Rp p) {start : List Int} (hs : Bx p start) : Runs (ref02_LeastBox_spec p start) (fun r => LbR p start (r.1, if r.2 then 0 else 24)) := by
  unfold ref02_LeastBox_spec
  have hl : start.length < 1073741824 := by have := hs.len; have := h.n3; omega
  rw [CopyInts_ok _ (by omega), Option.bind_some]
  have hI0 : LbI p start start := ⟨hs.len, fun _ _ => Int.le_refl _, fun k hk => ⟨hs.ge k (by rw [hs.len]; exact hk), hs.le k (by rw [hs.len]; exact hk)⟩, fun _ _ hK => hK⟩
  refine Runs.callR (R := fun o => match o with | .inl r => LbR p start (r.1, if r.2 then 0 else 24) | .inr b => False) ?_ ?_
  · refine Runs.loop (fun s => LbI p start s) (fun s => (sumN (fun k => 100000 - gi s k) p.Noise.length).toNat) hI0 ?_
    intro box hI
    unfold ref02_LeastBox_s0
    rw [rFirstOut_ok h hI.len hI.rng, Option.bind_some]
    cases hb : brk p box with
    | none =>
      simp only [brkV, Bool.not_false, cond_true]
      refine Runs.some ?_
      refine .inl ⟨rfl, hI.len, hI.from_, fun k hk => (hI.rng k hk).2, fun m hm i hi => brk_none hb m hm i (by rw [hI.len]; exact hi), hI.least⟩
    | some mi =>
      obtain ⟨m, i⟩ := mi
      obtain ⟨hm, hi, hlt⟩ := brk_some hb
      have hi' : i < p.Noise.length := by rw [← hI.len]; exact hi
      simp only [brkV, Bool.not_true, cond_false]
      rw [rReach_ok h hm hi' hI.len hI.rng, Option.bind_some, idx_gi hi, Option.bind_some, Int.toNat_natCast, idx_gi (by simpa using hi), gi_set hi, if_pos rfl, Option.bind_some]
      have hleast : ∀ K, Kept p K → (∀ k, k < p.Noise.length → gi start k ≤ gi K k) → needI p m i box ≤ gi K i := fun K hK hsK => Int.le_trans (needI_mono h (hI.least K hK hsK)) (hK m hm i hi')
      by_cases hbig : 100000 < needI p m i box
      · rw [show decide (100000 < needI p m i box) = true by simpa using hbig, cond_true]
        refine Runs.some ?_
        refine .inr ⟨rfl, fun K hK hsK hle => ?_⟩
        have := hleast K hK hsK
        have := hle i hi'
        omega
      · rw [show decide (100000 < needI p m i box) = false by simpa using hbig, cond_false]
        have hg : ∀ k, gi (box.set i (needI p m i box)) k = if i = k then needI p m i box else gi box k := fun k => gi_set hi
        have hI' : LbI p start (box.set i (needI p m i box)) := by
          refine ⟨by rw [List.length_set]; exact hI.len, fun k hk => ?_, fun k hk => ?_, fun K hK hsK k hk => ?_⟩
          · rw [hg]; split
            · rename_i e; subst e; have := hI.from_ i hi'; omega
            · exact hI.from_ k hk
          · rw [hg]; split
            · rename_i e; subst e; have := hI.rng i hi'; omega
            · exact hI.rng k hk
          · rw [hg]; split
            · rename_i e; subst e; exact hleast K hK hsK
            · exact hI.least K hK hsK k hk
        refine Runs.some ⟨hI', ?_⟩
        have h1 : sumN (fun k => 100000 - gi (box.set i (needI p m i box)) k) p.Noise.length < sumN (fun k => 100000 - gi box k) p.Noise.length := by
          refine sumN_lt hi' (fun k hk => ?_) ?_
          · rw [hg]; split
            · rename_i e; subst e; omega
            · omega
          · simp only [hg, if_pos]; omega
        have h2 : 0 ≤ sumN (fun k => 100000 - gi (box.set i (needI p m i box)) k) p.Noise.length := sumN_nonneg fun k hk => by have := hI'.rng k hk; omega
        show (sumN (fun k => 100000 - gi (box.set i (needI p m i box)) k) p.Noise.length).toNat < (sumN (fun k => 100000 - gi box k) p.Noise.length).toNat
        omega
  · intro o ho
    cases o with
    | inl r => exact Runs.jl ho
    | inr b => exact ho.elim

/-! ### What lies in a box -/
def liesB (x box : List Int) : Bool := (List.range x.length).all fun k => smallB (gi box k) (gi x k)
theorem lies_ok {x box : List Int} (hl : x.length = box.length) (h1 : x.length ≤ 1000) (hb : ∀ k, k < box.length → 0 ≤ gi box k ∧ gi box k ≤ 4000000000000000000) : law02_lies_spec x box = some (liesB x box) := by
  unfold law02_lies_spec
  rw [loop_fs x (fun k _ => if smallB (gi box k) (gi x k) then none else some false), Option.bind_some, fs_all (fun k => smallB (gi box k) (gi x k)) false x 0]
  · unfold liesB
    simp only [Nat.zero_add]
    cases (List.range x.length).all fun k => smallB (gi box k) (gi x k) <;> rfl
  · intro k hk
    unfold law02_lies_s0
    have := hb k (by omega)
    rw [lt_nat hk, idx_gi hk, w64n k (by omega), cond_true, Option.bind_some, idx_gi (by omega), Option.bind_some, Option.bind_some, show w64 (0 - gi box k) = -gi box k by rw [w64_id (by omega)]; omega, bwithin_ok, Option.bind_some]
    change (bif !smallB (gi box k) (gi x k) then _ else _) = _
    cases smallB (gi box k) (gi x k) <;> rfl
  · unfold law02_lies_s0
    rw [lt_nat_no]; rfl
theorem lies_iff {x box : List Int} : liesB x box = true ↔ ∀ k, k < x.length → -gi box k ≤ gi x k ∧ gi x k ≤ gi box k := by
  unfold liesB
  rw [List.all_eq_true]
  constructor
  · intro h k hk; exact (small_iff _ _).1 (h k (List.mem_range.2 hk))
  · intro h k hk; exact (small_iff _ _).2 (h k (List.mem_range.1 hk))
end Go.Gw
