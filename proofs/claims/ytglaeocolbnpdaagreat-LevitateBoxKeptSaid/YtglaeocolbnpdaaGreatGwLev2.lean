/- Levitate in plain words: right plants, states, boxes, the least box. Condition: lists are short. -/
import Derived.Test.YtglaeocolbnpdaaGreatGwLev1
set_option maxRecDepth 4096
set_option linter.unusedSimpArgs false
set_option linter.unusedVariables false
namespace Go.Gw
open Go

/-! ### Places and sums -/
def gi (l : List Int) (k : Nat) : Int := l.getD k 0
def gr (f : List (List Int)) (i : Nat) : List Int := f.getD i []
theorem gi_eq {l : List Int} {k : Nat} (h : k < l.length) : l[k] = gi l k := by simp [gi, h]
theorem gr_eq {l : List (List Int)} {k : Nat} (h : k < l.length) : l[k] = gr l k := by simp [gr, h]
theorem idx_gi {l : List Int} {k : Nat} (h : k < l.length) : idx l (k : Int) = some (gi l k) := by rw [idx_nat h, gi_eq h]
theorem idx_gr {l : List (List Int)} {k : Nat} (h : k < l.length) : idx l (k : Int) = some (gr l k) := by rw [idx_nat h, gr_eq h]
theorem gi_mem {l : List Int} {k : Nat} (h : k < l.length) : gi l k ∈ l := by rw [← gi_eq h]; exact List.getElem_mem h
theorem gr_mem {l : List (List Int)} {k : Nat} (h : k < l.length) : gr l k ∈ l := by rw [← gr_eq h]; exact List.getElem_mem h
theorem mem_gi {l : List Int} {x : Int} (h : x ∈ l) : ∃ k, k < l.length ∧ gi l k = x := by
  obtain ⟨k, hk, rfl⟩ := List.getElem_of_mem h; exact ⟨k, hk, (gi_eq hk).symm⟩
theorem list_ext_gi {a b : List Int} (hl : a.length = b.length) (h : ∀ k, k < a.length → gi a k = gi b k) : a = b := by
  apply List.ext_getElem hl
  intro k h1 h2
  rw [gi_eq h1, gi_eq h2]; exact h k h1
def sumN (t : Nat → Int) : Nat → Int
  | 0 => 0
  | n + 1 => sumN t n + t n
theorem sumN_congr {t u : Nat → Int} : ∀ {n : Nat}, (∀ k, k < n → t k = u k) → sumN t n = sumN u n
  | 0, _ => rfl
  | n + 1, h => by simp only [sumN]; rw [sumN_congr (fun k hk => h k (by omega)), h n (by omega)]
theorem sumN_le {t u : Nat → Int} : ∀ {n : Nat}, (∀ k, k < n → t k ≤ u k) → sumN t n ≤ sumN u n
  | 0, _ => Int.le_refl _
  | n + 1, h => by simp only [sumN]; have := sumN_le (n := n) (fun k hk => h k (by omega)); have := h n (by omega); omega
theorem sumN_nonneg {t : Nat → Int} : ∀ {n : Nat}, (∀ k, k < n → 0 ≤ t k) → 0 ≤ sumN t n
  | 0, _ => Int.le_refl _
  | n + 1, h => by simp only [sumN]; have := sumN_nonneg (n := n) (fun k hk => h k (by omega)); have := h n (by omega); omega
theorem sumN_bound {t : Nat → Int} {B : Int} : ∀ {n : Nat}, (∀ k, k < n → t k ≤ B) → sumN t n ≤ n * B
  | 0, _ => by simp [sumN]
  | n + 1, h => by
    simp only [sumN]
    have h1 := sumN_bound (n := n) (fun k hk => h k (by omega)); have h2 := h n (by omega)
    have : ((n + 1 : Nat) : Int) * B = n * B + B := by rw [Int.natCast_add, Int.add_mul]; simp
    omega
theorem w64_eq (x : Int) : w64 x = (x + 9223372036854775808) % 18446744073709551616 - 9223372036854775808 := by
  have : w64 x = if x % 18446744073709551616 ≥ 9223372036854775808 then x % 18446744073709551616 - 18446744073709551616 else x % 18446744073709551616 := by
    simp [w64, IntKind.wrap, IntKind.bits, IntKind.signed]
  rw [this]; split <;> omega
theorem w64_add (a b : Int) : w64 (w64 a + b) = w64 (a + b) := by simp only [w64_eq]; omega
theorem w64_add' (a b : Int) : w64 (a + w64 b) = w64 (a + b) := by simp only [w64_eq]; omega
theorem loop_sum {step : (Int × Int) → Option ((Int × Int) ⊕ Int)} (n : Nat) (t : Nat → Int) (hs : ∀ k, k < n → ∀ a, step (a, (k : Int)) = some (.inl (w64 (a + t k), ((k + 1 : Nat) : Int)))) (he : ∀ a, step (a, (n : Int)) = some (.inr a)) :
    loop step (0, 0) = some (w64 (sumN t n)) := by
  have key : ∀ k, k ≤ n → loop step (0, 0) = loop step (w64 (sumN t k), (k : Int)) := by
    intro k
    induction k with
    | zero => intro _; rfl
    | succ k ih => intro hk; rw [ih (by omega), loop_inl (hs k (by omega) _), w64_add]; rfl
  rw [key n (Nat.le_refl _)]
  exact loop_inr (he _)

/-! ### Right plants -/
structure Rp (p : LevitatePlant) : Prop where
  den : 1 ≤ p.Den ∧ p.Den ≤ 1000
  n1 : 1 ≤ p.Noise.length
  n3 : p.Noise.length ≤ 3
  noise : ∀ x ∈ p.Noise, 0 ≤ x ∧ x ≤ 10000
  m1 : 1 ≤ p.Maps.length
  m4 : p.Maps.length ≤ 4
  sq : ∀ m ∈ p.Maps, m.length = p.Noise.length
  row : ∀ m ∈ p.Maps, ∀ r ∈ m, r.length = p.Noise.length
  ent : ∀ m ∈ p.Maps, ∀ r ∈ m, ∀ x ∈ r, -1000 ≤ x ∧ x ≤ 1000
theorem fs_mem {α ρ : Type} {f : Nat → α → Option ρ} {r : ρ} : ∀ {l : List α} {k : Nat}, fs f k l = some r → ∃ i, ∃ h : i < l.length, f (k + i) l[i] = some r := by
  intro l
  induction l with
  | nil => intro k h; cases h
  | cons x xs ih =>
    intro k h
    cases hx : f k x with
    | some r' => simp only [fs, hx] at h; cases h; exact ⟨0, by simp, by simpa using hx⟩
    | none =>
      simp only [fs, hx] at h
      obtain ⟨i, hi, h'⟩ := ih h
      exact ⟨i + 1, by simpa using hi, by simpa [Nat.add_assoc, Nat.add_comm 1 i] using h'⟩
theorem rowErr_ne {n m i : Nat} {row : List Int} {r : LevitateMark × Int} (h : rowErr n m i row = some r) : r.2 ≠ 0 := by
  unfold rowErr at h; split at h
  · cases h; simp
  · split at h
    · cases h
    · cases h; simp
theorem mapErr_ne {n m : Nat} {rows : List (List Int)} {r : LevitateMark × Int} (h : mapErr n m rows = some r) : r.2 ≠ 0 := by
  unfold mapErr at h; split at h
  · cases h; simp
  · obtain ⟨i, hi, h'⟩ := fs_mem h; exact rowErr_ne h'
theorem noise_iff (l : List Int) : l.any noiseBad = false ↔ ∀ x ∈ l, 0 ≤ x ∧ x ≤ 10000 := by
  rw [List.any_eq_false]; simp [noiseBad]
theorem small_iff (m x : Int) : smallB m x = true ↔ -m ≤ x ∧ x ≤ m := by simp [smallB]
theorem ckP_right {p : LevitatePlant} : (ckP p).2 = 0 ↔ Rp p := by
  constructor
  · intro h
    unfold ckP at h
    by_cases h1 : 1 ≤ p.Den ∧ p.Den ≤ 1000
    · by_cases h2 : p.Noise.length = 0
      · simp [h1, h2] at h
      · by_cases h3 : 3 < p.Noise.length
        · simp only [h1, h2, h3, if_true, if_false, not_true_eq_false, and_self] at h; simp at h
        · cases h4 : p.Noise.any noiseBad with
          | true => simp only [h1, h2, h3, h4, if_true, if_false, not_true_eq_false, and_self] at h; simp at h
          | false =>
            by_cases h5 : p.Maps.length = 0
            · simp only [h1, h2, h3, h4, h5, if_true, if_false, not_true_eq_false, and_self] at h; simp at h
            · by_cases h6 : 4 < p.Maps.length
              · simp only [h1, h2, h3, h4, h5, h6, if_true, if_false, not_true_eq_false, and_self] at h; simp at h
              · simp only [h1, h2, h3, h4, h5, h6, if_true, if_false, not_true_eq_false, and_self] at h
                cases h7 : fs (mapErr p.Noise.length) 0 p.Maps with
                | some r =>
                  simp only [h7] at h
                  obtain ⟨i, hi, h'⟩ := fs_mem h7
                  exact absurd h (mapErr_ne h')
                | none =>
                  rw [fs_none] at h7
                  have hm : ∀ m ∈ p.Maps, ∃ i, mapErr p.Noise.length i m = none := fun m hm => by
                    obtain ⟨i, hi, rfl⟩ := List.getElem_of_mem hm
                    exact ⟨_, h7 i hi⟩
                  have hm2 : ∀ m ∈ p.Maps, m.length = p.Noise.length ∧ ∀ r ∈ m, r.length = p.Noise.length ∧ r.all (smallB 1000) = true := fun m hm' => by
                    obtain ⟨i, hi⟩ := hm m hm'
                    unfold mapErr at hi
                    split at hi
                    · cases hi
                    · rename_i hl
                      refine ⟨by simpa using hl, fun r hr => ?_⟩
                      rw [fs_none] at hi
                      obtain ⟨j, hj, rfl⟩ := List.getElem_of_mem hr
                      have := hi j hj
                      unfold rowErr at this
                      split at this
                      · cases this
                      · rename_i hrl
                        split at this
                        · rename_i ha; exact ⟨by simpa using hrl, ha⟩
                        · cases this
                  exact ⟨h1, by omega, by omega, (noise_iff _).1 h4, by omega, by omega, fun m hm => (hm2 m hm).1, fun m hm r hr => ((hm2 m hm).2 r hr).1, fun m hm r hr x hx => (small_iff 1000 x).1 (List.all_eq_true.1 ((hm2 m hm).2 r hr).2 x hx)⟩
    · rw [if_pos h1] at h; simp at h
  · intro h
    have e4 : fs (mapErr p.Noise.length) 0 p.Maps = none := by
      rw [fs_none]
      intro i hi
      have hm := List.getElem_mem hi
      unfold mapErr
      rw [if_neg (by simp [h.sq _ hm]), fs_none]
      intro j hj
      have hr := List.getElem_mem hj
      unfold rowErr
      rw [if_neg (by simp [h.row _ hm _ hr]), if_pos (List.all_eq_true.2 fun x hx => (small_iff 1000 x).2 (h.ent _ hm _ hr x hx))]
    unfold ckP
    rw [if_neg (by simp [h.den]), if_neg (by have := h.n1; omega), if_neg (by have := h.n3; omega), if_neg (by rw [Bool.not_eq_true]; exact (noise_iff _).2 h.noise), if_neg (by have := h.m1; omega), if_neg (by have := h.m4; omega), e4]
theorem Rp.ck {p : LevitatePlant} (h : Rp p) : ckP p = (⟨0, 0⟩, 0) := by
  have h0 := ckP_right.2 h
  unfold ckP at h0 ⊢
  rw [if_neg (by simp [h.den]), if_neg (by have := h.n1; omega), if_neg (by have := h.n3; omega), if_neg (by rw [Bool.not_eq_true]; exact (noise_iff _).2 h.noise), if_neg (by have := h.m1; omega), if_neg (by have := h.m4; omega)] at h0 ⊢
  cases h7 : fs (mapErr p.Noise.length) 0 p.Maps with
  | some r => simp only [h7] at h0; obtain ⟨i, hi, h'⟩ := fs_mem h7; exact absurd h0 (mapErr_ne h')
  | none => rfl
theorem Rp.sh {p : LevitatePlant} (h : Rp p) : Sh p :=
  ⟨by have := h.n3; omega, by have := h.m4; omega, fun m hm => by have := h.sq m hm; have := h.n3; omega, fun m hm r hr => by have := h.row m hm r hr; have := h.n3; omega⟩

theorem rCheckPlant_ok (p : LevitatePlant) (h : Sh p) : ref02_CheckPlant_spec p = some (ckP p) := by
  unfold ref02_CheckPlant_spec
  rw [bwithin_ok]
  have hn : loop (ref02_CheckPlant_s0 p) 0 = some (oi (fs (fun _ x => if noiseBad x then some ((⟨0, 0⟩, 2) : LevitateMark × Int) else none) 0 p.Noise)) := by
    refine loop_fs p.Noise _ (fun k hk => ?_) ?_
    · unfold ref02_CheckPlant_s0
      rw [lt_nat hk, idx_nat hk, w64n k (by have := h.noise; omega)]
      simp only [cond_true, Option.bind_some, bwithin_ok]
      show (bif noiseBad p.Noise[k] then _ else _) = _
      cases noiseBad p.Noise[k] <;> rfl
    · unfold ref02_CheckPlant_s0
      rw [lt_nat_no]; rfl
  have hloop : loop (ref02_CheckPlant_s3 p) 0 = some (oi (fs (mapErr p.Noise.length) 0 p.Maps)) := by
    refine loop_fs p.Maps _ (fun k hk => ?_) ?_
    · unfold ref02_CheckPlant_s3
      rw [lt_nat hk, idx_nat hk]
      simp only [cond_true, Option.bind_some, len_dec]
      have hm := List.getElem_mem hk
      unfold mapErr
      by_cases hn : p.Maps[k].length = p.Noise.length
      · simp only [hn, decide_true, Bool.not_true, cond_false, ne_eq, not_true_eq_false, if_false]
        have hin : loop (ref02_CheckPlant_s2 p (k : Int)) 0 = some (oi ((fs (rowErr p.Noise.length k) 0 p.Maps[k]).map fun r => (.inr (.inl r) : Int ⊕ ((LevitateMark × Int) ⊕ Unit)))) := by
          rw [loop_fs p.Maps[k] (fun i row => (rowErr p.Noise.length k i row).map fun r => (.inr (.inl r) : Int ⊕ ((LevitateMark × Int) ⊕ Unit)))]
          · congr 2
            have : ∀ (l : List (List Int)) j, fs (fun i row => (rowErr p.Noise.length k i row).map fun r => (.inr (.inl r) : Int ⊕ ((LevitateMark × Int) ⊕ Unit))) j l = (fs (rowErr p.Noise.length k) j l).map fun r => .inr (.inl r) := by
              intro l
              induction l with
              | nil => intro j; rfl
              | cons x xs ih =>
                intro j
                simp only [fs]
                cases rowErr p.Noise.length k j x with
                | some r => rfl
                | none => exact ih _
            exact this p.Maps[k] 0
          · intro i hi
            unfold ref02_CheckPlant_s2
            rw [idx_nat hk, Option.bind_some, lt_nat hi, cond_true, Option.bind_some, idx_nat hi, Option.bind_some]
            have hr := h.row _ hm _ (List.getElem_mem hi)
            generalize hrow : p.Maps[k][i] = row at *
            have h1 : loop (ref02_CheckPlant_s1 row (k : Int) (i : Int)) 0 = some (oi (fs (fun _ x => if smallB 1000 x then none else some ((.inr (.inl (.inr (.inl ((⟨k, i⟩, 2) : LevitateMark × Int))))) : Int ⊕ (((Int) ⊕ ((LevitateMark × Int) ⊕ (Unit))) ⊕ (Unit)))) 0 row)) := by
              refine loop_fs row _ (fun t ht => ?_) ?_
              · unfold ref02_CheckPlant_s1
                rw [lt_nat ht, idx_nat ht, w64n t (by omega)]
                simp only [cond_true, Option.bind_some, bwithin_ok]
                show (bif !smallB 1000 row[t] then _ else _) = _
                cases smallB 1000 row[t] <;> rfl
              · unfold ref02_CheckPlant_s1
                rw [lt_nat_no]; rfl
            have h2 : fs (fun _ x => if smallB 1000 x then none else some ((.inr (.inl (.inr (.inl ((⟨k, i⟩, 2) : LevitateMark × Int))))) : Int ⊕ (((Int) ⊕ ((LevitateMark × Int) ⊕ (Unit))) ⊕ (Unit)))) 0 row = if row.all (smallB 1000) then none else some (.inr (.inl (.inr (.inl (⟨k, i⟩, 2))))) := by
              have : ∀ (l : List Int) t, fs (fun _ x => if smallB 1000 x then none else some ((.inr (.inl (.inr (.inl ((⟨k, i⟩, 2) : LevitateMark × Int))))) : Int ⊕ (((Int) ⊕ ((LevitateMark × Int) ⊕ (Unit))) ⊕ (Unit)))) t l = if l.all (smallB 1000) then none else some (.inr (.inl (.inr (.inl (⟨k, i⟩, 2))))) := by
                intro l
                induction l with
                | nil => intro t; rfl
                | cons x xs ih =>
                  intro t
                  cases hx : smallB 1000 x with
                  | true => simp [fs, hx, ih]
                  | false => simp [fs, hx]
              exact this row 0
            simp only [len_dec, h1, h2, Option.bind_some]
            rw [w64n i (by have := h.rows _ hm; omega)]
            unfold rowErr
            by_cases h3 : row.length = p.Noise.length
            · by_cases h4 : row.all (smallB 1000) = true
              · simp [h3, h4, fsS, oi, jn0]
              · simp [h3, h4, fsS, oi, jn0]
            · simp [h3, fsS]
          · unfold ref02_CheckPlant_s2
            rw [idx_nat hk, Option.bind_some, lt_nat_no]; rfl
        rw [hin]
        cases fs (rowErr p.Noise.length k) 0 p.Maps[k] with
        | some r => rfl
        | none => simp only [Option.bind_some, Option.map_none, oi, jn0, fsS]; rw [w64n k (by have := h.maps; omega)]
      · simp [hn, fsS]
    · unfold ref02_CheckPlant_s3
      rw [lt_nat_no]; rfl
  have hn2 : fs (fun _ x => if noiseBad x then some ((⟨0, 0⟩, 2) : LevitateMark × Int) else none) 0 p.Noise = if p.Noise.any noiseBad then some (⟨0, 0⟩, 2) else none := by
    have : ∀ (l : List Int) t, fs (fun _ x => if noiseBad x then some ((⟨0, 0⟩, 2) : LevitateMark × Int) else none) t l = if l.any noiseBad then some (⟨0, 0⟩, 2) else none := by
      intro l
      induction l with
      | nil => intro t; rfl
      | cons x xs ih =>
        intro t
        cases hx : noiseBad x with
        | true => simp [fs, hx]
        | false => simp [fs, hx, ih]
    exact this p.Noise 0
  rw [hloop, hn, hn2]
  have e1 : (decide ((p.Noise.length : Int) = 0)) = decide (p.Noise.length = 0) := len_dec _ 0
  have e2 : (decide (3 < (p.Noise.length : Int))) = decide (3 < p.Noise.length) := by rw [Bool.eq_iff_iff, decide_eq_true_iff, decide_eq_true_iff]; omega
  have e3 : (decide ((p.Maps.length : Int) = 0)) = decide (p.Maps.length = 0) := len_dec _ 0
  have e4 : (decide (4 < (p.Maps.length : Int))) = decide (4 < p.Maps.length) := by rw [Bool.eq_iff_iff, decide_eq_true_iff, decide_eq_true_iff]; omega
  have e5 : (decide (1 ≤ p.Den) && decide (p.Den ≤ 1000)) = decide (1 ≤ p.Den ∧ p.Den ≤ 1000) := by rw [Bool.eq_iff_iff]; simp
  rw [e1, e2, e3, e4, e5]
  unfold ckP
  by_cases h1 : 1 ≤ p.Den ∧ p.Den ≤ 1000 <;> by_cases h2 : p.Noise.length = 0 <;> by_cases h3 : 3 < p.Noise.length <;> cases h4 : p.Noise.any noiseBad <;> by_cases h5 : p.Maps.length = 0 <;> by_cases h6 : 4 < p.Maps.length <;>
    simp only [h1, h2, h3, h5, h6, decide_true, decide_false, cond_true, cond_false, Bool.not_true, Bool.not_false, if_true, if_false, not_true_eq_false, not_false_eq_true, Option.bind_some, oi, jn0, Bool.false_eq_true] <;>
    (cases fs (mapErr p.Noise.length) 0 p.Maps <;> rfl)
theorem lopen_ok (p : LevitatePlant) (h : Sh p) : levitate_open_spec p = some (⟨p⟩, (ckP p).2) := by
  unfold levitate_open_spec; rw [lCheckPlant_ok p h]; rfl

/-! ### States and boxes -/
def stE (p : LevitatePlant) (x : List Int) : Int := if x.length ≠ p.Noise.length then 10 else if x.all (smallB 100000) then 0 else 2
def bxE (p : LevitatePlant) (x : List Int) : Int := if stE p x ≠ 0 then stE p x else if x.any neg0 then 2 else 0
theorem lstateErr_ok (p : LevitatePlant) (x : List Int) (hx : x.length < 1073741824) : levitate_plant_stateErr_spec ⟨p⟩ x = some (stE p x) := by
  unfold levitate_plant_stateErr_spec
  simp only [lunless_ok, Option.bind_some, levitate_allSmall_spec, allSmall_ok x 100000 (by decide) hx, first2, len_dec]
  unfold stE
  by_cases h : x.length = p.Noise.length <;> cases h2 : x.all (smallB 100000) <;> simp [h]
theorem lboxErr_ok (p : LevitatePlant) (x : List Int) (hx : x.length < 1073741824) : levitate_plant_boxErr_spec ⟨p⟩ x = some (bxE p x) := by
  unfold levitate_plant_boxErr_spec
  simp only [CF102_ok x hx, lstateErr_ok p x hx, lunless_ok, Option.bind_some, first2]
  unfold bxE
  by_cases h : stE p x = 0 <;> cases h2 : x.any neg0 <;> simp [h]
def opB (p : LevitatePlant) (x : List Int) : Int := if (ckP p).2 ≠ 0 then (ckP p).2 else bxE p x
theorem lopenBox_ok (p : LevitatePlant) (x : List Int) (h : Sh p) (hx : x.length < 1073741824) : levitate_openBox_spec p x = some (⟨p⟩, opB p x) := by
  unfold levitate_openBox_spec
  rw [lopen_ok p h]
  simp only [Option.bind_some, lboxErr_ok p x hx]
  unfold opB
  by_cases h1 : (ckP p).2 = 0 <;> simp [h1]
structure Bx (p : LevitatePlant) (x : List Int) : Prop where
  len : x.length = p.Noise.length
  ge : ∀ k, k < x.length → 0 ≤ gi x k
  le : ∀ k, k < x.length → gi x k ≤ 100000
theorem bxE_right {p : LevitatePlant} {x : List Int} : bxE p x = 0 ↔ Bx p x := by
  unfold bxE stE
  constructor
  · intro h
    by_cases h1 : x.length = p.Noise.length
    · cases h2 : x.all (smallB 100000) with
      | false => simp [h1, h2] at h
      | true =>
        cases h3 : x.any neg0 with
        | true => simp [h1, h2, h3] at h
        | false =>
          rw [List.all_eq_true] at h2
          rw [List.any_eq_false] at h3
          exact ⟨h1, fun k hk => by have := h3 _ (gi_mem hk); simp [neg0] at this; omega, fun k hk => ((small_iff _ _).1 (h2 _ (gi_mem hk))).2⟩
    · simp [h1] at h
  · intro h
    have h2 : x.all (smallB 100000) = true := List.all_eq_true.2 fun y hy => by
      obtain ⟨k, hk, rfl⟩ := mem_gi hy
      have := h.ge k hk; have := h.le k hk
      exact (small_iff _ _).2 (by omega)
    have h3 : x.any neg0 = false := List.any_eq_false.2 fun y hy => by
      obtain ⟨k, hk, rfl⟩ := mem_gi hy
      have := h.ge k hk
      simp [neg0]; omega
    simp [h.len, h2, h3]
end Go.Gw
