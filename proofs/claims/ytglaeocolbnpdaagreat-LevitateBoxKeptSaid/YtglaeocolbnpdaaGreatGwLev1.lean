/- Levitate in plain words: small functions, plants, states, boxes. Condition: lists are short. -/
import Derived.Test.YtglaeocolbnpdaaGreatGwFnZ
import Derived.Test.YtglaeocolbnpdaaGreatGwPl2
set_option maxRecDepth 4096
set_option linter.unusedSimpArgs false
set_option linter.unusedVariables false
namespace Go.Gw
open Go

def fs {α ρ : Type} (f : Nat → α → Option ρ) : Nat → List α → Option ρ
  | _, [] => none
  | k, x :: xs => match f k x with | some r => some r | none => fs f (k + 1) xs
def oi {ρ : Type} : Option ρ → ρ ⊕ Unit
  | some r => .inl r
  | none => .inr ()
def fsS {ρ : Type} (o : Option ρ) (k : Nat) : Option (Int ⊕ (ρ ⊕ Unit)) := match o with | some r => some (.inr (.inl r)) | none => some (.inl ((k + 1 : Nat) : Int))
theorem loop_fs {α ρ : Type} {step : Int → Option (Int ⊕ (ρ ⊕ Unit))} (xs : List α) (f : Nat → α → Option ρ)
    (hs : ∀ k (hk : k < xs.length), step (k : Int) = fsS (f k xs[k]) k)
    (he : step (xs.length : Int) = some (.inr (.inr ()))) : loop step 0 = some (oi (fs f 0 xs)) := by
  have key : ∀ j k, j + k = xs.length → loop step (k : Int) = some (oi (fs f k (xs.drop k))) := by
    intro j
    induction j with
    | zero =>
      intro k hk
      obtain rfl : k = xs.length := by omega
      rw [List.drop_length]
      exact loop_inr he
    | succ j ih =>
      intro k hk
      have hlt : k < xs.length := by omega
      rw [List.drop_eq_getElem_cons hlt]
      have := hs k hlt
      simp only [fs]
      cases hp : f k xs[k] with
      | some r => rw [hp] at this; exact loop_inr this
      | none => rw [hp] at this; rw [loop_inl this]; exact ih (k + 1) (by omega)
  have := key xs.length 0 (by omega)
  simpa using this
theorem fs_none {α ρ : Type} {f : Nat → α → Option ρ} : ∀ {l : List α} {k : Nat}, fs f k l = none ↔ ∀ i (h : i < l.length), f (k + i) l[i] = none := by
  intro l
  induction l with
  | nil => intro k; simp [fs]
  | cons x xs ih =>
    intro k
    cases h : f k x with
    | some r =>
      simp only [fs, h]
      constructor
      · intro h'; cases h'
      · intro h'; have := h' 0 (by simp); simp [h] at this
    | none =>
      simp only [fs, h, ih]
      constructor
      · intro h' i hi
        cases i with
        | zero => simpa using h
        | succ i => have := h' i (by simpa using hi); simpa [Nat.add_assoc, Nat.add_comm 1 i] using this
      · intro h' i hi
        have := h' (i + 1) (by simpa using hi)
        simpa [Nat.add_assoc, Nat.add_comm 1 i] using this
theorem fs_congr {α ρ : Type} {f g : Nat → α → Option ρ} : ∀ {l : List α} {k : Nat}, (∀ i (h : i < l.length), f (k + i) l[i] = g (k + i) l[i]) → fs f k l = fs g k l := by
  intro l
  induction l with
  | nil => intro k _; rfl
  | cons x xs ih =>
    intro k h
    have h0 := h 0 (by simp)
    simp only [Nat.add_zero, List.getElem_cons_zero] at h0
    simp only [fs, h0]
    cases g k x with
    | some r => rfl
    | none => exact ih fun i hi => by have := h (i + 1) (by simpa using hi); simpa [Nat.add_assoc, Nat.add_comm 1 i] using this

/-! ### Errors -/
def frst : List Int → Int
  | [] => 0
  | x :: xs => if x = 0 then frst xs else x
theorem lfirst_ok (l : List Int) (hl : l.length < 1073741824) : levitate_first_spec l = some (frst l) := by
  unfold levitate_first_spec
  rw [loop_fs l (fun _ x => if x = 0 then none else some x)]
  · have key : ∀ (l : List Int) k, (jn0 (oi (fs (fun _ x => if x = 0 then none else some x) k l)) fun (_ : Unit) => some 0) = some (frst l) := by
      intro l
      induction l with
      | nil => intro k; rfl
      | cons x xs ih =>
        intro k
        by_cases h : x = 0
        · simp [fs, frst, h]; exact ih _
        · simp [fs, frst, h, jn0, oi]
    simpa using key l 0
  · intro k hk
    unfold levitate_first_s0
    rw [lt_nat hk, idx_nat hk, w64n k (by omega)]
    by_cases h : l[k] = 0 <;> simp [h, fsS]
  · unfold levitate_first_s0
    rw [lt_nat_no]; rfl
theorem lunless_ok (b : Bool) (e : Int) : levitate_unless_spec b e = some (bif b then 0 else e) := by cases b <;> rfl
theorem lwithin_ok (n lo hi : Int) : levitate_within_spec n lo hi = some (decide (lo ≤ n) && decide (n ≤ hi)) := rfl
theorem bwithin_ok (n lo hi : Int) : base_Within_spec n lo hi = some (decide (lo ≤ n) && decide (n ≤ hi)) := rfl
theorem first2 (a b : Int) : levitate_first_spec [a, b] = some (if a = 0 then b else a) := by
  rw [lfirst_ok _ (by simp)]; simp only [frst]
  by_cases ha : a = 0 <;> by_cases hb : b = 0 <;> simp [ha, hb]
theorem first3 (a b c : Int) : levitate_first_spec [a, b, c] = some (if a = 0 then (if b = 0 then c else b) else a) := by
  rw [lfirst_ok _ (by simp)]; simp only [frst]
  by_cases ha : a = 0 <;> by_cases hb : b = 0 <;> by_cases hc : c = 0 <;> simp [ha, hb, hc]

def smallB (m n : Int) : Bool := decide (-m ≤ n) && decide (n ≤ m)
theorem lsmall_ok (n m : Int) (h : 0 ≤ m ∧ m ≤ 4611686018427387904) : levitate_small_spec n m = some (smallB m n) := by
  unfold levitate_small_spec
  rw [lwithin_ok, w64_id (by omega), show (0 : Int) - m = -m by omega]; rfl
theorem abs_ok {n : Int} (h : -4611686018427387904 ≤ n ∧ n ≤ 4611686018427387904) : (if n < w64 (0 - n) then w64 (0 - n) else n) = (n.natAbs : Int) := by
  rw [w64_id (by omega)]; split <;> omega
theorem lsize_ok {n : Int} (h : -4611686018427387904 ≤ n ∧ n ≤ 4611686018427387904) : levitate_size_spec n = some (n.natAbs : Int) := by
  unfold levitate_size_spec; rw [abs_ok h]
/-! ### Predicates over lists -/
def ixB {α : Type} (p : α → Bool) (l : List α) : Int := match fs (fun k x => if p x then some (k : Int) else none) 0 l with | some k => k | none => -1
theorem ix_ge {α : Type} (p : α → Bool) (l : List α) : decide (0 ≤ ixB p l) = l.any p := by
  have key : ∀ (l : List α) (k : Nat), (match fs (fun k x => if p x then some (k : Int) else none) k l with | some k => decide (0 ≤ k) | none => false) = l.any p := by
    intro l
    induction l with
    | nil => intro k; rfl
    | cons x xs ih =>
      intro k
      cases h : p x with
      | true => simp [fs, h]
      | false => simp only [fs, h, List.any_cons, Bool.false_or]; exact ih _
  unfold ixB
  rw [← key l 0]
  cases fs (fun k x => if p x then some (k : Int) else none) 0 l with
  | some k => rfl
  | none => rfl
theorem jn_ix {α : Type} (p : α → Bool) (l : List α) : (jn0 (oi (fs (fun k x => if p x then some (k : Int) else none) 0 l)) fun (_ : Unit) => some (-1)) = some (ixB p l) := by
  unfold ixB
  cases fs (fun k x => if p x then some (k : Int) else none) 0 l <;> rfl
theorem ix_step {b : Bool} {k : Nat} {e : Int} (he : e = ((k + 1 : Nat) : Int)) : (bif b then some (.inr (.inl (k : Int))) else some (.inl e) : Option (Int ⊕ (Int ⊕ Unit))) = fsS (if b then some (k : Int) else none) k := by
  subst he; cases b <;> rfl

def noiseBad (n : Int) : Bool := !(decide (0 ≤ n) && decide (n ≤ 10000))
theorem CF37_ok (l : List Int) (hl : l.length < 1073741824) : slices_ContainsFunc_int_187_spec l = some (l.any noiseBad) := by
  unfold slices_ContainsFunc_int_187_spec slices_IndexFunc_int_187_spec
  rw [loop_fs l (fun k x => if noiseBad x then some (k : Int) else none)]
  · simp only [Option.bind_some, jn_ix, ix_ge]
  · intro k hk
    unfold slices_IndexFunc_int_187_s0
    rw [lt_nat hk, idx_nat hk]
    simp only [cond_true, Option.bind_some, levitate_CheckPlant_1_spec, lwithin_ok]
    exact ix_step (w64n k (by omega))
  · unfold slices_IndexFunc_int_187_s0
    rw [lt_nat_no]; rfl
def neg0 (n : Int) : Bool := decide (n < 0)
theorem CF102_ok (l : List Int) (hl : l.length < 1073741824) : slices_ContainsFunc_int_165_spec l = some (l.any neg0) := by
  unfold slices_ContainsFunc_int_165_spec slices_IndexFunc_int_165_spec
  rw [loop_fs l (fun k x => if neg0 x then some (k : Int) else none)]
  · simp only [jn_ix neg0, Option.bind_some, ix_ge]
  · intro k hk
    unfold slices_IndexFunc_int_165_s0
    rw [lt_nat hk, idx_nat hk]
    simp only [cond_true, Option.bind_some, levitate_plant_boxErr_1_spec]
    exact ix_step (w64n k (by omega))
  · unfold slices_IndexFunc_int_165_s0
    rw [lt_nat_no]; rfl
theorem CF70_ok (l : List Int) (m : Int) (hm : 0 ≤ m ∧ m ≤ 4611686018427387904) (hl : l.length < 1073741824) : slices_ContainsFunc_int_147_spec l m = some (l.any fun n => !smallB m n) := by
  unfold slices_ContainsFunc_int_147_spec slices_IndexFunc_int_147_spec
  rw [loop_fs l (fun k x => if !smallB m x then some (k : Int) else none)]
  · simp only [Option.bind_some, jn_ix (fun n => !smallB m n), ix_ge]
  · intro k hk
    unfold slices_IndexFunc_int_147_s0
    rw [lt_nat hk, idx_nat hk]
    simp only [cond_true, Option.bind_some, levitate_allSmall_1_1_spec, lsmall_ok _ _ hm]
    exact ix_step (w64n k (by omega))
  · unfold slices_IndexFunc_int_147_s0
    rw [lt_nat_no]; rfl
theorem allSmall_ok (l : List Int) (m : Int) (hm : 0 ≤ m ∧ m ≤ 4611686018427387904) (hl : l.length < 1073741824) : levitate_allSmall_1_spec l m = some (l.all (smallB m)) := by
  unfold levitate_allSmall_1_spec
  rw [CF70_ok l m hm hl]
  simp only [Option.bind_some]
  congr 1
  rw [Bool.eq_iff_iff]; simp

/-! ### Plants -/
def rowErr (n m i : Nat) (row : List Int) : Option (LevitateMark × Int) :=
  if row.length ≠ n then some (⟨m, i⟩, 10) else if row.all (smallB 1000) then none else some (⟨m, i⟩, 2)
def mapErr (n m : Nat) (rows : List (List Int)) : Option (LevitateMark × Int) :=
  if rows.length ≠ n then some (⟨m, 0⟩, 10) else fs (rowErr n m) 0 rows
def ckP (p : LevitatePlant) : LevitateMark × Int :=
  if ¬ (1 ≤ p.Den ∧ p.Den ≤ 1000) then (⟨0, 0⟩, 2) else if p.Noise.length = 0 then (⟨0, 0⟩, 10) else if 3 < p.Noise.length then (⟨0, 0⟩, 8) else
    if p.Noise.any noiseBad then (⟨0, 0⟩, 2) else if p.Maps.length = 0 then (⟨0, 0⟩, 10) else if 4 < p.Maps.length then (⟨0, 0⟩, 8) else
    match fs (mapErr p.Noise.length) 0 p.Maps with | some r => r | none => (⟨0, 0⟩, 0)

structure Sh (p : LevitatePlant) : Prop where
  noise : p.Noise.length < 1073741824
  maps : p.Maps.length < 1073741824
  rows : ∀ m ∈ p.Maps, m.length < 1073741824
  row : ∀ m ∈ p.Maps, ∀ r ∈ m, r.length < 1073741824

theorem len_dec (a b : Nat) : (decide ((a : Int) = (b : Int))) = decide (a = b) := by rw [Bool.eq_iff_iff]; simp; omega

theorem lCheckPlant_ok (p : LevitatePlant) (h : Sh p) : levitate_CheckPlant_spec p = some (ckP p) := by
  unfold levitate_CheckPlant_spec
  rw [CF37_ok _ h.noise]
  simp only [Option.bind_some, lwithin_ok, lunless_ok]
  rw [lfirst_ok _ (by simp)]
  simp only [Option.bind_some, frst, levitate_allSmall_spec]
  have hloop : loop (levitate_CheckPlant_s1 p 1000) 0 = some (oi (fs (mapErr p.Noise.length) 0 p.Maps)) := by
    refine loop_fs p.Maps _ (fun k hk => ?_) ?_
    · unfold levitate_CheckPlant_s1
      rw [lt_nat hk, idx_nat hk]
      simp only [cond_true, Option.bind_some, len_dec]
      have hm := List.getElem_mem hk
      generalize hrows : p.Maps[k] = rows at *
      unfold mapErr
      by_cases hn : rows.length = p.Noise.length
      · simp only [hn, decide_true, Bool.not_true, cond_false, ne_eq, not_true_eq_false, if_false]
        have hin : loop (levitate_CheckPlant_s0 rows p 1000 (k : Int)) 0 = some (oi ((fs (rowErr p.Noise.length k) 0 rows).map fun r => (.inr (.inl r) : Int ⊕ ((LevitateMark × Int) ⊕ Unit)))) := by
          rw [loop_fs rows (fun i row => (rowErr p.Noise.length k i row).map fun r => (.inr (.inl r) : Int ⊕ ((LevitateMark × Int) ⊕ Unit)))]
          · congr 2
            have : ∀ (l : List (List Int)) j, fs (fun i row => (rowErr p.Noise.length k i row).map fun r => (.inr (.inl r) : Int ⊕ ((LevitateMark × Int) ⊕ Unit))) j l = (fs (rowErr p.Noise.length k) j l).map fun r => .inr (.inl r) := by
              intro l
              induction l with
              | nil => intro j; rfl
              | cons x xs ih =>
                intro j
                simp only [fs]
                cases rowErr p.Noise.length k j x with
                | some r => rfl
                | none => exact ih _
            exact this rows 0
          · intro i hi
            unfold levitate_CheckPlant_s0
            rw [lt_nat hi, idx_nat hi]
            have hr := h.row _ hm _ (List.getElem_mem hi)
            simp only [cond_true, Option.bind_some, lunless_ok, allSmall_ok _ 1000 (by decide) hr, first2, len_dec, w64n i (by have := h.rows _ hm; omega)]
            unfold rowErr
            by_cases h1 : rows[i].length = p.Noise.length
            · by_cases h2 : rows[i].all (smallB 1000) = true
              · simp [h1, h2, fsS]
              · simp [h1, h2, fsS]
            · simp [h1, fsS]
          · unfold levitate_CheckPlant_s0
            rw [lt_nat_no]; rfl
        rw [hin]
        cases fs (rowErr p.Noise.length k) 0 rows with
        | some r => rfl
        | none => simp only [Option.bind_some, Option.map_none, oi, jn0, fsS]; rw [w64n k (by have := h.maps; omega)]
      · simp [hn, fsS]
    · unfold levitate_CheckPlant_s1
      rw [lt_nat_no]; rfl
  rw [hloop]
  have e1 : (decide ((0 : Int) < (p.Noise.length : Int))) = !decide (p.Noise.length = 0) := by rw [Bool.eq_iff_iff, Bool.not_eq_true', decide_eq_true_iff, decide_eq_false_iff_not]; omega
  have e2 : (decide ((p.Noise.length : Int) ≤ 3)) = !decide (3 < p.Noise.length) := by rw [Bool.eq_iff_iff]; simp; omega
  have e3 : (decide ((0 : Int) < (p.Maps.length : Int))) = !decide (p.Maps.length = 0) := by rw [Bool.eq_iff_iff, Bool.not_eq_true', decide_eq_true_iff, decide_eq_false_iff_not]; omega
  have e4 : (decide ((p.Maps.length : Int) ≤ 4)) = !decide (4 < p.Maps.length) := by rw [Bool.eq_iff_iff]; simp; omega
  have e5 : (decide (1 ≤ p.Den) && decide (p.Den ≤ 1000)) = decide (1 ≤ p.Den ∧ p.Den ≤ 1000) := by rw [Bool.eq_iff_iff]; simp
  rw [e1, e2, e3, e4, e5]
  unfold ckP
  by_cases h1 : 1 ≤ p.Den ∧ p.Den ≤ 1000 <;> by_cases h2 : p.Noise.length = 0 <;> by_cases h3 : 3 < p.Noise.length <;> cases h4 : p.Noise.any noiseBad <;> by_cases h5 : p.Maps.length = 0 <;> by_cases h6 : 4 < p.Maps.length <;>
    simp only [h1, h2, h3, h5, h6, decide_true, decide_false, cond_true, cond_false, Bool.not_true, Bool.not_false, if_true, if_false, not_true_eq_false, not_false_eq_true, Option.bind_some] <;>
    (cases fs (mapErr p.Noise.length) 0 p.Maps <;> rfl)
end Go.Gw
