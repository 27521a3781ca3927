/- Levitate in plain words: what a box needs, the least box. Condition: lists are short. -/
import Derived.Test.YtglaeocolbnpdaaGreatGwLev2
set_option maxRecDepth 4096
set_option linter.unusedSimpArgs false
set_option linter.unusedVariables false
namespace Go.Gw
open Go

def gm (p : LevitatePlant) (m : Nat) : List (List Int) := p.Maps.getD m []
theorem gm_eq {p : LevitatePlant} {m : Nat} (h : m < p.Maps.length) : p.Maps[m] = gm p m := by simp [gm, h]
theorem idx_gm {p : LevitatePlant} {m : Nat} (h : m < p.Maps.length) : idx p.Maps (m : Int) = some (gm p m) := by rw [idx_nat h, gm_eq h]
theorem gm_mem {p : LevitatePlant} {m : Nat} (h : m < p.Maps.length) : gm p m ∈ p.Maps := by rw [← gm_eq h]; exact List.getElem_mem h
def ge (p : LevitatePlant) (m i k : Nat) : Int := gi (gr (gm p m) i) k
theorem Rp.row_len {p : LevitatePlant} (h : Rp p) {m i : Nat} (hm : m < p.Maps.length) (hi : i < p.Noise.length) : (gr (gm p m) i).length = p.Noise.length :=
  h.row _ (gm_mem hm) _ (gr_mem (by rw [h.sq _ (gm_mem hm)]; exact hi))
theorem Rp.ge_b {p : LevitatePlant} (h : Rp p) {m i k : Nat} (hm : m < p.Maps.length) (hi : i < p.Noise.length) (hk : k < p.Noise.length) : -1000 ≤ ge p m i k ∧ ge p m i k ≤ 1000 :=
  h.ent _ (gm_mem hm) _ (gr_mem (by rw [h.sq _ (gm_mem hm)]; exact hi)) _ (gi_mem (by rw [h.row_len hm hi]; exact hk))
theorem Rp.noise_b {p : LevitatePlant} (h : Rp p) {i : Nat} (hi : i < p.Noise.length) : 0 ≤ gi p.Noise i ∧ gi p.Noise i ≤ 10000 := h.noise _ (gi_mem hi)

def reach (p : LevitatePlant) (m i : Nat) (box : List Int) : Int := sumN (fun k => ((ge p m i k).natAbs : Int) * gi box k) p.Noise.length
def needI (p : LevitatePlant) (m i : Nat) (box : List Int) : Int := (reach p m i box + p.Den - 1) / p.Den + gi p.Noise i
theorem reach_b {p : LevitatePlant} (h : Rp p) {m i : Nat} (hm : m < p.Maps.length) (hi : i < p.Noise.length) {box : List Int} (hb : ∀ k, k < p.Noise.length → 0 ≤ gi box k ∧ gi box k ≤ 100000) : 0 ≤ reach p m i box ∧ reach p m i box ≤ 300000000 := by
  constructor
  · exact sumN_nonneg fun k hk => Int.mul_nonneg (by omega) (hb k hk).1
  · have h1 : reach p m i box ≤ (p.Noise.length : Int) * 100000000 := sumN_bound fun k hk => by
      have h2 := h.ge_b hm hi hk
      have h3 := hb k hk
      have : ((ge p m i k).natAbs : Int) * gi box k ≤ 1000 * 100000 := Int.mul_le_mul (by omega) h3.2 h3.1 (by omega)
      omega
    have := h.n3
    omega
theorem lceil_ok {n by_ : Int} (h0 : 0 ≤ n) (h1 : n ≤ 4000000000000000000) (h2 : 1 ≤ by_) (h3 : by_ ≤ 4000000000000000000) : levitate_ceil_spec n by_ = some ((n + by_ - 1) / by_) := by
  unfold levitate_ceil_spec
  have : decide (n < 0) = false := by simp; omega
  rw [this, cond_false, w64_id (x := n + by_) (by omega), w64_id (by omega), quo_ok (by omega), Int.tdiv_eq_ediv_of_nonneg (by omega)]
  have h4 : 0 ≤ (n + by_ - 1) / by_ := Int.ediv_nonneg (by omega) (by omega)
  have h5 : (n + by_ - 1) / by_ ≤ n + by_ - 1 := Int.ediv_le_self _ (by omega)
  rw [Option.bind_some, w64_id (by omega)]
theorem need_ok {p : LevitatePlant} (h : Rp p) {m i : Nat} (hm : m < p.Maps.length) (hi : i < p.Noise.length) {box : List Int} (hl : box.length = p.Noise.length) (hb : ∀ k, k < p.Noise.length → 0 ≤ gi box k ∧ gi box k ≤ 100000) :
    levitate_plant_need_spec ⟨p⟩ (m : Int) (i : Int) box = some (needI p m i box) := by
  unfold levitate_plant_need_spec
  have hmi : i < (gm p m).length := by rw [h.sq _ (gm_mem hm)]; exact hi
  rw [idx_gm hm, Option.bind_some, idx_gr hmi, Option.bind_some]
  have hr := reach_b h hm hi hb
  rw [loop_sum (p.Noise.length) (fun k => ((ge p m i k).natAbs : Int) * gi box k)]
  · rw [Option.bind_some, idx_gi hi, Option.bind_some]
    change Option.bind (levitate_ceil_spec (w64 (reach p m i box)) p.Den) _ = _
    have hn := h.noise_b hi
    have hd := h.den
    rw [w64_id (by omega), lceil_ok hr.1 (by omega) hd.1 (by omega), Option.bind_some]
    have h4 : 0 ≤ (reach p m i box + p.Den - 1) / p.Den := Int.ediv_nonneg (by omega) (by omega)
    have h5 : (reach p m i box + p.Den - 1) / p.Den ≤ reach p m i box + p.Den - 1 := Int.ediv_le_self _ (by omega)
    rw [w64_id (by omega)]; rfl
  · intro k hk a
    unfold levitate_plant_need_s0
    have hrl := h.row_len hm hi
    simp only [hrl, lt_nat hk, cond_true]
    rw [idx_gi (by rw [hrl]; exact hk), Option.bind_some, idx_gi (by omega), Option.bind_some]
    have hg := h.ge_b hm hi hk
    change Option.bind (levitate_size_spec (ge p m i k)) _ = _
    rw [lsize_ok (by omega), Option.bind_some, w64_add', w64n k (by have := h.n3; omega)]
  · intro a
    unfold levitate_plant_need_s0
    simp only [h.row_len hm hi, lt_nat_no]; rfl
theorem reach_mono {p : LevitatePlant} {m i : Nat} {a b : List Int} (hab : ∀ k, k < p.Noise.length → gi a k ≤ gi b k) : reach p m i a ≤ reach p m i b :=
  sumN_le fun k hk => Int.mul_le_mul_of_nonneg_left (hab k hk) (by omega)
theorem needI_mono {p : LevitatePlant} (h : Rp p) {m i : Nat} {a b : List Int} (hab : ∀ k, k < p.Noise.length → gi a k ≤ gi b k) : needI p m i a ≤ needI p m i b := by
  unfold needI
  have := reach_mono (m := m) (i := i) hab
  have : (reach p m i a + p.Den - 1) / p.Den ≤ (reach p m i b + p.Den - 1) / p.Den := Int.ediv_le_ediv (by have := h.den; omega) (by omega)
  omega

/-! ### The first row by which a box is left -/
def brkRow (p : LevitatePlant) (box : List Int) (m : Nat) : Option (Nat × Nat) := fs (fun i b => if b < needI p m i box then some (m, i) else none) 0 box
def brk (p : LevitatePlant) (box : List Int) : Option (Nat × Nat) := fs (fun m _ => brkRow p box m) 0 p.Maps
def brkV : Option (Nat × Nat) → LevitateMark × Bool
  | some (m, i) => (⟨m, i⟩, true)
  | none => (⟨0, 0⟩, false)
theorem brk_some {p : LevitatePlant} {box : List Int} {m i : Nat} (h : brk p box = some (m, i)) : m < p.Maps.length ∧ i < box.length ∧ gi box i < needI p m i box := by
  obtain ⟨j, hj, h1⟩ := fs_mem h
  obtain ⟨k, hk, h2⟩ := fs_mem h1
  split at h2
  · rename_i hlt
    cases h2
    exact ⟨by omega, by omega, by rw [← gi_eq (by omega)]; simpa using hlt⟩
  · cases h2
theorem brk_none {p : LevitatePlant} {box : List Int} (h : brk p box = none) : ∀ m, m < p.Maps.length → ∀ i, i < box.length → needI p m i box ≤ gi box i := by
  intro m hm i hi
  unfold brk at h
  rw [fs_none] at h
  have h1 := h m hm
  unfold brkRow at h1
  rw [fs_none] at h1
  have h2 := h1 i hi
  split at h2
  · cases h2
  · rename_i hlt
    rw [gi_eq hi] at hlt
    simpa using hlt
theorem map_fs {α ρ σ : Type} (g : ρ → σ) (f : Nat → α → Option ρ) : ∀ (l : List α) (k : Nat), fs (fun i x => (f i x).map g) k l = (fs f k l).map g
  | [], _ => rfl
  | x :: xs, k => by
    simp only [fs]
    cases f k x with
    | some r => rfl
    | none => exact map_fs g f xs (k + 1)
theorem broken_ok {p : LevitatePlant} (h : Rp p) {box : List Int} (hl : box.length = p.Noise.length) (hb : ∀ k, k < p.Noise.length → 0 ≤ gi box k ∧ gi box k ≤ 100000) :
    levitate_plant_broken_spec ⟨p⟩ box = some (brkV (brk p box)) := by
  unfold levitate_plant_broken_spec
  have hin : ∀ m, m < p.Maps.length → loop (levitate_plant_broken_s0 box ⟨p⟩ (m : Int)) 0 = some (oi ((brkRow p box m).map fun r => (.inr (.inl (brkV (some r))) : Int ⊕ ((LevitateMark × Bool) ⊕ Unit)))) := by
    intro m hm
    rw [loop_fs box (fun i b => (if b < needI p m i box then some (m, i) else none).map fun r => (.inr (.inl (brkV (some r))) : Int ⊕ ((LevitateMark × Bool) ⊕ Unit)))]
    · rw [map_fs]; rfl
    · intro k hk
      unfold levitate_plant_broken_s0
      rw [lt_nat hk, idx_nat hk, cond_true, Option.bind_some, need_ok h hm (by omega) hl hb, Option.bind_some, w64n k (by have := h.n3; omega)]
      by_cases hlt : box[k] < needI p m k box <;> simp [hlt, fsS, brkV]
    · unfold levitate_plant_broken_s0
      rw [lt_nat_no]; rfl
  rw [loop_fs p.Maps (fun m _ => (brkRow p box m).map fun r => brkV (some r))]
  · rw [map_fs (fun r => brkV (some r)) (fun m _ => brkRow p box m)]
    unfold brk
    cases fs (fun m _ => brkRow p box m) 0 p.Maps <;> rfl
  · intro m hm
    unfold levitate_plant_broken_s1
    rw [lt_nat hm, cond_true, hin m hm, Option.bind_some, w64n m (by have := h.m4; omega)]
    cases brkRow p box m <;> rfl
  · unfold levitate_plant_broken_s1
    rw [lt_nat_no]; rfl

/-! ### The least box -/
def Kept (p : LevitatePlant) (K : List Int) : Prop := ∀ m, m < p.Maps.length → ∀ i, i < p.Noise.length → needI p m i K ≤ gi K i
structure LbOk (p : LevitatePlant) (start b : List Int) : Prop where
  len : b.length = p.Noise.length
  from_ : ∀ k, k < p.Noise.length → gi start k ≤ gi b k
  le : ∀ k, k < p.Noise.length → gi b k ≤ 100000
  kept : Kept p b
  least : ∀ K, Kept p K → (∀ k, k < p.Noise.length → gi start k ≤ gi K k) → ∀ k, k < p.Noise.length → gi b k ≤ gi K k
def LbNo (p : LevitatePlant) (start : List Int) : Prop := ∀ K, Kept p K → (∀ k, k < p.Noise.length → gi start k ≤ gi K k) → ¬ ∀ k, k < p.Noise.length → gi K k ≤ 100000
def LbR (p : LevitatePlant) (start : List Int) (r : List Int × Int) : Prop := (r.2 = 0 ∧ LbOk p start r.1) ∨ (r = ([], 24) ∧ LbNo p start)
theorem gi_set {l : List Int} {i k : Nat} {v : Int} (hi : i < l.length) : gi (l.set i v) k = if i = k then v else gi l k := by
  unfold gi
  simp only [List.getD_eq_getElem?_getD, List.getElem?_set]
  by_cases h : i = k
  · subst h; simp [hi]
  · simp [h]
structure LbI (p : LevitatePlant) (start box : List Int) : Prop where
  len : box.length = p.Noise.length
  from_ : ∀ k, k < p.Noise.length → gi start k ≤ gi box k
  rng : ∀ k, k < p.Noise.length → 0 ≤ gi box k ∧ gi box k ≤ 100000
  least : ∀ K, Kept p K → (∀ k, k < p.Noise.length → gi start k ≤ gi K k) → ∀ k, k < p.Noise.length → gi box k ≤ gi K k
theorem sumN_lt {t u : Nat → Int} {j : Nat} : ∀ {n : Nat}, j < n → (∀ k, k < n → t k ≤ u k) → t j < u j → sumN t n < sumN u n
  | 0, h, _, _ => by omega
  | n + 1, h, hle, hlt => by
    simp only [sumN]
    by_cases hj : j = n
    · subst hj
      have := sumN_le (n := j) (fun k hk => hle k (by omega)); omega
    · have := sumN_lt (n := n) (by omega) (fun k hk => hle k (by omega)) hlt
      have := hle n (by omega); omega
theorem lLeastBox_ok {p : LevitatePlant} (h : Rp p) {start : List Int} (hs : Bx p start) : Runs (levitate_LeastBox_spec p start) (LbR p start) := by
  unfold levitate_LeastBox_spec
  have hl : start.length < 1073741824 := by have := hs.len; have := h.n3; omega
  rw [lopenBox_ok p start h.sh hl]
  have h0 : opB p start = 0 := by unfold opB; rw [h.ck, bxE_right.2 hs]; simp
  simp only [Option.bind_some, h0, decide_true, Bool.not_true, cond_false, slices_Clone_int_spec]
  rw [app_ok (by simp; omega), List.nil_append, Option.bind_some, Option.bind_some]
  have hI0 : LbI p start start := ⟨hs.len, fun _ _ => Int.le_refl _, fun k hk => ⟨hs.ge k (by rw [hs.len]; exact hk), hs.le k (by rw [hs.len]; exact hk)⟩, fun _ _ hK => hK⟩
  rw [broken_ok h hI0.len hI0.rng, Option.bind_some]
  refine Runs.callR (R := fun o => match o with | .inl r => LbR p start r | .inr b => LbR p start (b, 0)) ?_ ?_
  · refine Runs.loop (fun s => LbI p start s.1 ∧ s.2 = ((brkV (brk p s.1)).2, (brkV (brk p s.1)).1.Map, (brkV (brk p s.1)).1.Row)) (fun s => (sumN (fun k => 100000 - gi s.1 k) p.Noise.length).toNat) ⟨hI0, rfl⟩ ?_
    rintro ⟨box, left, m, i⟩ ⟨hI, he⟩
    replace hI : LbI p start box := hI
    simp only [Prod.mk.injEq] at he
    obtain ⟨rfl, rfl, rfl⟩ := he
    unfold levitate_LeastBox_s0
    cases hb : brk p box with
    | none =>
      simp only [brkV, cond_false]
      refine Runs.some ?_
      refine .inl ⟨rfl, hI.len, hI.from_, fun k hk => (hI.rng k hk).2, fun m hm i hi => brk_none hb m hm i (by rw [hI.len]; exact hi), hI.least⟩
    | some mi =>
      obtain ⟨m, i⟩ := mi
      obtain ⟨hm, hi, hlt⟩ := brk_some hb
      have hi' : i < p.Noise.length := by rw [← hI.len]; exact hi
      simp only [brkV, cond_true]
      rw [need_ok h hm hi' hI.len hI.rng, Option.bind_some, idx_gi hi, Option.bind_some, Int.toNat_natCast, idx_gi (by simpa using hi), gi_set hi, if_pos rfl, Option.bind_some]
      have hleast : ∀ K, Kept p K → (∀ k, k < p.Noise.length → gi start k ≤ gi K k) → needI p m i box ≤ gi K i := fun K hK hsK => Int.le_trans (needI_mono h (hI.least K hK hsK)) (hK m hm i hi')
      by_cases hbig : 100000 < needI p m i box
      · rw [show decide (100000 < needI p m i box) = true by simpa using hbig, cond_true]
        refine Runs.some ?_
        refine .inr ⟨rfl, fun K hK hsK hle => ?_⟩
        have := hleast K hK hsK
        have := hle i hi'
        omega
      · rw [show decide (100000 < needI p m i box) = false by simpa using hbig, cond_false]
        have hg : ∀ k, gi (box.set i (needI p m i box)) k = if i = k then needI p m i box else gi box k := fun k => gi_set hi
        have hI' : LbI p start (box.set i (needI p m i box)) := by
          refine ⟨by rw [List.length_set]; exact hI.len, fun k hk => ?_, fun k hk => ?_, fun K hK hsK k hk => ?_⟩
          · rw [hg]; split
            · rename_i e; subst e; have := hI.from_ i hi'; omega
            · exact hI.from_ k hk
          · rw [hg]; split
            · rename_i e; subst e; have := hI.rng i hi'; omega
            · exact hI.rng k hk
          · rw [hg]; split
            · rename_i e; subst e; exact hleast K hK hsK
            · exact hI.least K hK hsK k hk
        rw [broken_ok h hI'.len hI'.rng, Option.bind_some]
        refine Runs.some ⟨⟨hI', rfl⟩, ?_⟩
        have h1 : sumN (fun k => 100000 - gi (box.set i (needI p m i box)) k) p.Noise.length < sumN (fun k => 100000 - gi box k) p.Noise.length := by
          refine sumN_lt hi' (fun k hk => ?_) ?_
          · rw [hg]; split
            · rename_i e; subst e; omega
            · omega
          · simp only [hg, if_pos]; omega
        have h2 : 0 ≤ sumN (fun k => 100000 - gi (box.set i (needI p m i box)) k) p.Noise.length := sumN_nonneg fun k hk => by have := hI'.rng k hk; omega
        show (sumN (fun k => 100000 - gi (box.set i (needI p m i box)) k) p.Noise.length).toNat < (sumN (fun k => 100000 - gi box k) p.Noise.length).toNat
        omega
  · intro o ho
    cases o with
    | inl r => exact Runs.jl ho
    | inr b => exact Runs.some ho
theorem LbR.eq {p : LevitatePlant} {start : List Int} {r s : List Int × Int} (hr : LbR p start r) (hs : LbR p start s) : r = s := by
  rcases hr with ⟨h1, h2⟩ | ⟨h1, h2⟩ <;> rcases hs with ⟨h3, h4⟩ | ⟨h3, h4⟩
  · refine Prod.ext (list_ext_gi (by rw [h2.len, h4.len]) fun k hk => ?_) (by rw [h1, h3])
    rw [h2.len] at hk
    exact Int.le_antisymm (h2.least _ h4.kept h4.from_ k hk) (h4.least _ h2.kept h2.from_ k hk)
  · exact absurd h2.le (h4 _ h2.kept h2.from_)
  · exact absurd h4.le (h2 _ h4.kept h4.from_)
  · rw [h1, h3]
end Go.Gw
