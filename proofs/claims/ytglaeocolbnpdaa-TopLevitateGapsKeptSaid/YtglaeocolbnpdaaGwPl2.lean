/- Laws of the walk. Condition: each theorem says its own. -/
import Derived.Test.YtglaeocolbnpdaaGwPlan2
import Derived.Test.YtglaeocolbnpdaaGwFnZ
section
namespace Go.Gw
section
variable {α β γ σ ρ : Type}
def srch (p : α → Bool) (res : Nat → α → ρ) : Nat → List α → ρ ⊕ Unit
  | _, [] => .inr ()
  | k, x :: xs => if p x then .inl (res k x) else srch p res (k + 1) xs
def fld (f : Nat → γ → α → γ) : Nat → γ → List α → γ
  | _, a, [] => a
  | k, a, x :: xs => fld f (k + 1) (f k a x) xs
theorem loop_fld {step : σ → Option (σ ⊕ β)} (xs : List α) (f : Nat → γ → α → γ) (S : γ → Nat → σ) (o : γ → β) (Inv : γ → Nat → Prop) (a0 : γ) (h0 : Inv a0 0)
    (hs : ∀ k (hk : k < xs.length) a, Inv a k → step (S a k) = some (.inl (S (f k a xs[k]) (k + 1))) ∧ Inv (f k a xs[k]) (k + 1))
    (he : ∀ a, Inv a xs.length → step (S a xs.length) = some (.inr (o a))) : loop step (S a0 0) = some (o (fld f 0 a0 xs)) ∧ Inv (fld f 0 a0 xs) xs.length := by
  have key : ∀ j k a, j + k = xs.length → Inv a k → loop step (S a k) = some (o (fld f k a (xs.drop k))) ∧ Inv (fld f k a (xs.drop k)) xs.length := by
    intro j
    induction j with
    | zero =>
      intro k a hk hI
      obtain rfl : k = xs.length := by omega
      rw [List.drop_length]
      exact ⟨loop_inr (he a hI), hI⟩
    | succ j ih =>
      intro k a hk hI
      have hlt : k < xs.length := by omega
      rw [List.drop_eq_getElem_cons hlt]
      have := hs k hlt a hI
      rw [loop_inl this.1]
      exact ih (k + 1) _ (by omega) this.2
  have := key xs.length 0 a0 (by omega) h0
  simpa using this

def rng (f : Nat → γ → γ) (a : γ) : Nat → γ
  | 0 => a
  | n + 1 => f n (rng f a n)
theorem w64n (k : Nat) (h : k < 4611686018427387904) : w64 ((k : Int) + 1) = ((k + 1 : Nat) : Int) := by rw [w64_id (by omega)]; omega
theorem lt_nat {k n : Nat} (h : k < n) : decide ((k : Int) < (n : Int)) = true := by simp; omega
theorem lt_nat_no (n : Nat) : decide ((n : Int) < (n : Int)) = false := by simp
end
end Go.Gw

end
section
set_option maxRecDepth 4096
set_option linter.unusedSimpArgs false
set_option linter.unusedVariables false
namespace Go.Gw
open Go

def fs {α ρ : Type} (f : Nat → α → Option ρ) : Nat → List α → Option ρ
  | _, [] => none
  | k, x :: xs => match f k x with | some r => some r | none => fs f (k + 1) xs
def oi {ρ : Type} : Option ρ → ρ ⊕ Unit
  | some r => .inl r
  | none => .inr ()
def fsS {ρ : Type} (o : Option ρ) (k : Nat) : Option (Int ⊕ (ρ ⊕ Unit)) := match o with | some r => some (.inr (.inl r)) | none => some (.inl ((k + 1 : Nat) : Int))
theorem loop_fs {α ρ : Type} {step : Int → Option (Int ⊕ (ρ ⊕ Unit))} (xs : List α) (f : Nat → α → Option ρ)
    (hs : ∀ k (hk : k < xs.length), step (k : Int) = fsS (f k xs[k]) k)
    (he : step (xs.length : Int) = some (.inr (.inr ()))) : loop step 0 = some (oi (fs f 0 xs)) := by
  have key : ∀ j k, j + k = xs.length → loop step (k : Int) = some (oi (fs f k (xs.drop k))) := by
    intro j
    induction j with
    | zero =>
      intro k hk
      obtain rfl : k = xs.length := by omega
      rw [List.drop_length]
      exact loop_inr he
    | succ j ih =>
      intro k hk
      have hlt : k < xs.length := by omega
      rw [List.drop_eq_getElem_cons hlt]
      have := hs k hlt
      simp only [fs]
      cases hp : f k xs[k] with
      | some r => rw [hp] at this; exact loop_inr this
      | none => rw [hp] at this; rw [loop_inl this]; exact ih (k + 1) (by omega)
  have := key xs.length 0 (by omega)
  simpa using this
theorem fs_none {α ρ : Type} {f : Nat → α → Option ρ} : ∀ {l : List α} {k : Nat}, fs f k l = none ↔ ∀ i (h : i < l.length), f (k + i) l[i] = none := by
  intro l
  induction l with
  | nil => intro k; simp [fs]
  | cons x xs ih =>
    intro k
    cases h : f k x with
    | some r =>
      simp only [fs, h]
      constructor
      · intro h'; cases h'
      · intro h'; have := h' 0 (by simp); simp [h] at this
    | none =>
      simp only [fs, h, ih]
      constructor
      · intro h' i hi
        cases i with
        | zero => simpa using h
        | succ i => have := h' i (by simpa using hi); simpa [Nat.add_assoc, Nat.add_comm 1 i] using this
      · intro h' i hi
        have := h' (i + 1) (by simpa using hi)
        simpa [Nat.add_assoc, Nat.add_comm 1 i] using this
theorem fs_congr {α ρ : Type} {f g : Nat → α → Option ρ} : ∀ {l : List α} {k : Nat}, (∀ i (h : i < l.length), f (k + i) l[i] = g (k + i) l[i]) → fs f k l = fs g k l := by
  intro l
  induction l with
  | nil => intro k _; rfl
  | cons x xs ih =>
    intro k h
    have h0 := h 0 (by simp)
    simp only [Nat.add_zero, List.getElem_cons_zero] at h0
    simp only [fs, h0]
    cases g k x with
    | some r => rfl
    | none => exact ih fun i hi => by have := h (i + 1) (by simpa using hi); simpa [Nat.add_assoc, Nat.add_comm 1 i] using this

/-! ### Errors -/
def frst : List Int → Int
  | [] => 0
  | x :: xs => if x = 0 then frst xs else x
theorem lfirst_ok (l : List Int) (hl : l.length < 1073741824) : levitate_first_spec l = some (frst l) := by
  unfold levitate_first_spec
  rw [loop_fs l (fun _ x => if x = 0 then none else some x)]
  · have key : ∀ (l : List Int) k, (jn0 (oi (fs (fun _ x => if x = 0 then none else some x) k l)) fun (_ : Unit) => some 0) = some (frst l) := by
      intro l
      induction l with
      | nil => intro k; rfl
      | cons x xs ih =>
        intro k
        by_cases h : x = 0
        · simp [fs, frst, h]; exact ih _
        · simp [fs, frst, h, jn0, oi]
    simpa using key l 0
  · intro k hk
    unfold levitate_first_s0
    rw [lt_nat hk, idx_nat hk, w64n k (by omega)]
    by_cases h : l[k] = 0 <;> simp [h, fsS]
  · unfold levitate_first_s0
    rw [lt_nat_no]; rfl
theorem lunless_ok (b : Bool) (e : Int) : levitate_unless_spec b e = some (bif b then 0 else e) := by cases b <;> rfl
theorem lwithin_ok (n lo hi : Int) : levitate_within_spec n lo hi = some (decide (lo ≤ n) && decide (n ≤ hi)) := rfl
theorem bwithin_ok (n lo hi : Int) : base_Within_spec n lo hi = some (decide (lo ≤ n) && decide (n ≤ hi)) := rfl
theorem first2 (a b : Int) : levitate_first_spec [a, b] = some (if a = 0 then b else a) := by
  rw [lfirst_ok _ (by simp)]; simp only [frst]
  by_cases ha : a = 0 <;> by_cases hb : b = 0 <;> simp [ha, hb]
theorem first3 (a b c : Int) : levitate_first_spec [a, b, c] = some (if a = 0 then (if b = 0 then c else b) else a) := by
  rw [lfirst_ok _ (by simp)]; simp only [frst]
  by_cases ha : a = 0 <;> by_cases hb : b = 0 <;> by_cases hc : c = 0 <;> simp [ha, hb, hc]

def smallB (m n : Int) : Bool := decide (-m ≤ n) && decide (n ≤ m)
theorem lsmall_ok (n m : Int) (h : 0 ≤ m ∧ m ≤ 4611686018427387904) : levitate_small_spec n m = some (smallB m n) := by
  unfold levitate_small_spec
  rw [lwithin_ok, w64_id (by omega), show (0 : Int) - m = -m by omega]; rfl
theorem abs_ok {n : Int} (h : -4611686018427387904 ≤ n ∧ n ≤ 4611686018427387904) : (if n < w64 (0 - n) then w64 (0 - n) else n) = (n.natAbs : Int) := by
  rw [w64_id (by omega)]; split <;> omega
theorem lsize_ok {n : Int} (h : -4611686018427387904 ≤ n ∧ n ≤ 4611686018427387904) : levitate_size_spec n = some (n.natAbs : Int) := by
  unfold levitate_size_spec; rw [abs_ok h]
/-! ### Predicates over lists -/
def ixB {α : Type} (p : α → Bool) (l : List α) : Int := match fs (fun k x => if p x then some (k : Int) else none) 0 l with | some k => k | none => -1
theorem ix_ge {α : Type} (p : α → Bool) (l : List α) : decide (0 ≤ ixB p l) = l.any p := by
  have key : ∀ (l : List α) (k : Nat), (match fs (fun k x => if p x then some (k : Int) else none) k l with | some k => decide (0 ≤ k) | none => false) = l.any p := by
    intro l
    induction l with
    | nil => intro k; rfl
    | cons x xs ih =>
      intro k
      cases h : p x with
      | true => simp [fs, h]
      | false => simp only [fs, h, List.any_cons, Bool.false_or]; exact ih _
  unfold ixB
  rw [← key l 0]
  cases fs (fun k x => if p x then some (k : Int) else none) 0 l with
  | some k => rfl
  | none => rfl
theorem jn_ix {α : Type} (p : α → Bool) (l : List α) : (jn0 (oi (fs (fun k x => if p x then some (k : Int) else none) 0 l)) fun (_ : Unit) => some (-1)) = some (ixB p l) := by
  unfold ixB
  cases fs (fun k x => if p x then some (k : Int) else none) 0 l <;> rfl
theorem ix_step {b : Bool} {k : Nat} {e : Int} (he : e = ((k + 1 : Nat) : Int)) : (bif b then some (.inr (.inl (k : Int))) else some (.inl e) : Option (Int ⊕ (Int ⊕ Unit))) = fsS (if b then some (k : Int) else none) k := by
  subst he; cases b <;> rfl

def noiseBad (n : Int) : Bool := !(decide (0 ≤ n) && decide (n ≤ 10000))
theorem CF37_ok (l : List Int) (hl : l.length < 1073741824) : slices_ContainsFunc_int_37_spec l = some (l.any noiseBad) := by
  unfold slices_ContainsFunc_int_37_spec slices_IndexFunc_int_37_spec
  rw [loop_fs l (fun k x => if noiseBad x then some (k : Int) else none)]
  · simp only [Option.bind_some, jn_ix, ix_ge]
  · intro k hk
    unfold slices_IndexFunc_int_37_s0
    rw [lt_nat hk, idx_nat hk]
    simp only [cond_true, Option.bind_some, levitate_CheckPlant_1_spec, lwithin_ok]
    exact ix_step (w64n k (by omega))
  · unfold slices_IndexFunc_int_37_s0
    rw [lt_nat_no]; rfl
def neg0 (n : Int) : Bool := decide (n < 0)
theorem CF102_ok (l : List Int) (hl : l.length < 1073741824) : slices_ContainsFunc_int_102_spec l = some (l.any neg0) := by
  unfold slices_ContainsFunc_int_102_spec slices_IndexFunc_int_102_spec
  rw [loop_fs l (fun k x => if neg0 x then some (k : Int) else none)]
  · simp only [jn_ix neg0, Option.bind_some, ix_ge]
  · intro k hk
    unfold slices_IndexFunc_int_102_s0
    rw [lt_nat hk, idx_nat hk]
    simp only [cond_true, Option.bind_some, levitate_plant_boxErr_1_spec]
    exact ix_step (w64n k (by omega))
  · unfold slices_IndexFunc_int_102_s0
    rw [lt_nat_no]; rfl
theorem CF70_ok (l : List Int) (m : Int) (hm : 0 ≤ m ∧ m ≤ 4611686018427387904) (hl : l.length < 1073741824) : slices_ContainsFunc_int_70_spec l m = some (l.any fun n => !smallB m n) := by
  unfold slices_ContainsFunc_int_70_spec slices_IndexFunc_int_70_spec
  rw [loop_fs l (fun k x => if !smallB m x then some (k : Int) else none)]
  · simp only [Option.bind_some, jn_ix (fun n => !smallB m n), ix_ge]
  · intro k hk
    unfold slices_IndexFunc_int_70_s0
    rw [lt_nat hk, idx_nat hk]
    simp only [cond_true, Option.bind_some, levitate_allSmall_1_1_spec, lsmall_ok _ _ hm]
    exact ix_step (w64n k (by omega))
  · unfold slices_IndexFunc_int_70_s0
    rw [lt_nat_no]; rfl
theorem allSmall_ok (l : List Int) (m : Int) (hm : 0 ≤ m ∧ m ≤ 4611686018427387904) (hl : l.length < 1073741824) : levitate_allSmall_1_spec l m = some (l.all (smallB m)) := by
  unfold levitate_allSmall_1_spec
  rw [CF70_ok l m hm hl]
  simp only [Option.bind_some]
  congr 1
  rw [Bool.eq_iff_iff]; simp

/-! ### Plants -/
def rowErr (n m i : Nat) (row : List Int) : Option (LevitateMark × Int) :=
  if row.length ≠ n then some (⟨m, i⟩, 10) else if row.all (smallB 1000) then none else some (⟨m, i⟩, 2)
def mapErr (n m : Nat) (rows : List (List Int)) : Option (LevitateMark × Int) :=
  if rows.length ≠ n then some (⟨m, 0⟩, 10) else fs (rowErr n m) 0 rows
def ckP (p : LevitatePlant) : LevitateMark × Int :=
  if ¬ (1 ≤ p.Den ∧ p.Den ≤ 1000) then (⟨0, 0⟩, 2) else if p.Noise.length = 0 then (⟨0, 0⟩, 10) else if 3 < p.Noise.length then (⟨0, 0⟩, 8) else
    if p.Noise.any noiseBad then (⟨0, 0⟩, 2) else if p.Maps.length = 0 then (⟨0, 0⟩, 10) else if 4 < p.Maps.length then (⟨0, 0⟩, 8) else
    match fs (mapErr p.Noise.length) 0 p.Maps with | some r => r | none => (⟨0, 0⟩, 0)

structure Sh (p : LevitatePlant) : Prop where
  noise : p.Noise.length < 1073741824
  maps : p.Maps.length < 1073741824
  rows : ∀ m ∈ p.Maps, m.length < 1073741824
  row : ∀ m ∈ p.Maps, ∀ r ∈ m, r.length < 1073741824

theorem len_dec (a b : Nat) : (decide ((a : Int) = (b : Int))) = decide (a = b) := by rw [Bool.eq_iff_iff]; simp; omega

theorem lCheckPlant_ok (p : LevitatePlant) (h : Sh p) : levitate_CheckPlant_spec p = some (ckP p) := by
  unfold levitate_CheckPlant_spec
  rw [CF37_ok _ h.noise]
  simp only [Option.bind_some, lwithin_ok, lunless_ok]
  rw [lfirst_ok _ (by simp)]
  simp only [Option.bind_some, frst, levitate_allSmall_spec]
  have hloop : loop (levitate_CheckPlant_s1 p 1000) 0 = some (oi (fs (mapErr p.Noise.length) 0 p.Maps)) := by
    refine loop_fs p.Maps _ (fun k hk => ?_) ?_
    · unfold levitate_CheckPlant_s1
      rw [lt_nat hk, idx_nat hk]
      simp only [cond_true, Option.bind_some, len_dec]
      have hm := List.getElem_mem hk
      generalize hrows : p.Maps[k] = rows at *
      unfold mapErr
      by_cases hn : rows.length = p.Noise.length
      · simp only [hn, decide_true, Bool.not_true, cond_false, ne_eq, not_true_eq_false, if_false]
        have hin : loop (levitate_CheckPlant_s0 rows p 1000 (k : Int)) 0 = some (oi ((fs (rowErr p.Noise.length k) 0 rows).map fun r => (.inr (.inl r) : Int ⊕ ((LevitateMark × Int) ⊕ Unit)))) := by
          rw [loop_fs rows (fun i row => (rowErr p.Noise.length k i row).map fun r => (.inr (.inl r) : Int ⊕ ((LevitateMark × Int) ⊕ Unit)))]
          · congr 2
            have : ∀ (l : List (List Int)) j, fs (fun i row => (rowErr p.Noise.length k i row).map fun r => (.inr (.inl r) : Int ⊕ ((LevitateMark × Int) ⊕ Unit))) j l = (fs (rowErr p.Noise.length k) j l).map fun r => .inr (.inl r) := by
              intro l
              induction l with
              | nil => intro j; rfl
              | cons x xs ih =>
                intro j
                simp only [fs]
                cases rowErr p.Noise.length k j x with
                | some r => rfl
                | none => exact ih _
            exact this rows 0
          · intro i hi
            unfold levitate_CheckPlant_s0
            rw [lt_nat hi, idx_nat hi]
            have hr := h.row _ hm _ (List.getElem_mem hi)
            simp only [cond_true, Option.bind_some, lunless_ok, allSmall_ok _ 1000 (by decide) hr, first2, len_dec, w64n i (by have := h.rows _ hm; omega)]
            unfold rowErr
            by_cases h1 : rows[i].length = p.Noise.length
            · by_cases h2 : rows[i].all (smallB 1000) = true
              · simp [h1, h2, fsS]
              · simp [h1, h2, fsS]
            · simp [h1, fsS]
          · unfold levitate_CheckPlant_s0
            rw [lt_nat_no]; rfl
        rw [hin]
        cases fs (rowErr p.Noise.length k) 0 rows with
        | some r => rfl
        | none => simp only [Option.bind_some, Option.map_none, oi, jn0, fsS]; rw [w64n k (by have := h.maps; omega)]
      · simp [hn, fsS]
    · unfold levitate_CheckPlant_s1
      rw [lt_nat_no]; rfl
  rw [hloop]
  have e1 : (decide ((0 : Int) < (p.Noise.length : Int))) = !decide (p.Noise.length = 0) := by rw [Bool.eq_iff_iff, Bool.not_eq_true', decide_eq_true_iff, decide_eq_false_iff_not]; omega
  have e2 : (decide ((p.Noise.length : Int) ≤ 3)) = !decide (3 < p.Noise.length) := by rw [Bool.eq_iff_iff]; simp; omega
  have e3 : (decide ((0 : Int) < (p.Maps.length : Int))) = !decide (p.Maps.length = 0) := by rw [Bool.eq_iff_iff, Bool.not_eq_true', decide_eq_true_iff, decide_eq_false_iff_not]; omega
  have e4 : (decide ((p.Maps.length : Int) ≤ 4)) = !decide (4 < p.Maps.length) := by rw [Bool.eq_iff_iff]; simp; omega
  have e5 : (decide (1 ≤ p.Den) && decide (p.Den ≤ 1000)) = decide (1 ≤ p.Den ∧ p.Den ≤ 1000) := by rw [Bool.eq_iff_iff]; simp
  rw [e1, e2, e3, e4, e5]
  unfold ckP
  by_cases h1 : 1 ≤ p.Den ∧ p.Den ≤ 1000 <;> by_cases h2 : p.Noise.length = 0 <;> by_cases h3 : 3 < p.Noise.length <;> cases h4 : p.Noise.any noiseBad <;> by_cases h5 : p.Maps.length = 0 <;> by_cases h6 : 4 < p.Maps.length <;>
    simp only [h1, h2, h3, h5, h6, decide_true, decide_false, cond_true, cond_false, Bool.not_true, Bool.not_false, if_true, if_false, not_true_eq_false, not_false_eq_true, Option.bind_some] <;>
    (cases fs (mapErr p.Noise.length) 0 p.Maps <;> rfl)
end Go.Gw

end
section
set_option maxRecDepth 4096
set_option linter.unusedSimpArgs false
set_option linter.unusedVariables false
namespace Go.Gw
open Go

/-! ### Places and sums -/
def gi (l : List Int) (k : Nat) : Int := l.getD k 0
def gr (f : List (List Int)) (i : Nat) : List Int := f.getD i []
theorem gi_eq {l : List Int} {k : Nat} (h : k < l.length) : l[k] = gi l k := by simp [gi, h]
theorem gr_eq {l : List (List Int)} {k : Nat} (h : k < l.length) : l[k] = gr l k := by simp [gr, h]
theorem idx_gi {l : List Int} {k : Nat} (h : k < l.length) : idx l (k : Int) = some (gi l k) := by rw [idx_nat h, gi_eq h]
theorem idx_gr {l : List (List Int)} {k : Nat} (h : k < l.length) : idx l (k : Int) = some (gr l k) := by rw [idx_nat h, gr_eq h]
theorem gi_mem {l : List Int} {k : Nat} (h : k < l.length) : gi l k ∈ l := by rw [← gi_eq h]; exact List.getElem_mem h
theorem gr_mem {l : List (List Int)} {k : Nat} (h : k < l.length) : gr l k ∈ l := by rw [← gr_eq h]; exact List.getElem_mem h
theorem mem_gi {l : List Int} {x : Int} (h : x ∈ l) : ∃ k, k < l.length ∧ gi l k = x := by
  obtain ⟨k, hk, rfl⟩ := List.getElem_of_mem h; exact ⟨k, hk, (gi_eq hk).symm⟩
theorem list_ext_gi {a b : List Int} (hl : a.length = b.length) (h : ∀ k, k < a.length → gi a k = gi b k) : a = b := by
  apply List.ext_getElem hl
  intro k h1 h2
  rw [gi_eq h1, gi_eq h2]; exact h k h1
def sumN (t : Nat → Int) : Nat → Int
  | 0 => 0
  | n + 1 => sumN t n + t n
theorem sumN_congr {t u : Nat → Int} : ∀ {n : Nat}, (∀ k, k < n → t k = u k) → sumN t n = sumN u n
  | 0, _ => rfl
  | n + 1, h => by simp only [sumN]; rw [sumN_congr (fun k hk => h k (by omega)), h n (by omega)]
theorem sumN_le {t u : Nat → Int} : ∀ {n : Nat}, (∀ k, k < n → t k ≤ u k) → sumN t n ≤ sumN u n
  | 0, _ => Int.le_refl _
  | n + 1, h => by simp only [sumN]; have := sumN_le (n := n) (fun k hk => h k (by omega)); have := h n (by omega); omega
theorem sumN_nonneg {t : Nat → Int} : ∀ {n : Nat}, (∀ k, k < n → 0 ≤ t k) → 0 ≤ sumN t n
  | 0, _ => Int.le_refl _
  | n + 1, h => by simp only [sumN]; have := sumN_nonneg (n := n) (fun k hk => h k (by omega)); have := h n (by omega); omega
theorem sumN_bound {t : Nat → Int} {B : Int} : ∀ {n : Nat}, (∀ k, k < n → t k ≤ B) → sumN t n ≤ n * B
  | 0, _ => by simp [sumN]
  | n + 1, h => by
    simp only [sumN]
    have h1 := sumN_bound (n := n) (fun k hk => h k (by omega)); have h2 := h n (by omega)
    have : ((n + 1 : Nat) : Int) * B = n * B + B := by rw [Int.natCast_add, Int.add_mul]; simp
    omega
theorem w64_eq (x : Int) : w64 x = (x + 9223372036854775808) % 18446744073709551616 - 9223372036854775808 := by
  have : w64 x = if x % 18446744073709551616 ≥ 9223372036854775808 then x % 18446744073709551616 - 18446744073709551616 else x % 18446744073709551616 := by
    simp [w64, IntKind.wrap, IntKind.bits, IntKind.signed]
  rw [this]; split <;> omega
theorem w64_add (a b : Int) : w64 (w64 a + b) = w64 (a + b) := by simp only [w64_eq]; omega
theorem w64_add' (a b : Int) : w64 (a + w64 b) = w64 (a + b) := by simp only [w64_eq]; omega
theorem loop_sum {step : (Int × Int) → Option ((Int × Int) ⊕ Int)} (n : Nat) (t : Nat → Int) (hs : ∀ k, k < n → ∀ a, step (a, (k : Int)) = some (.inl (w64 (a + t k), ((k + 1 : Nat) : Int)))) (he : ∀ a, step (a, (n : Int)) = some (.inr a)) :
    loop step (0, 0) = some (w64 (sumN t n)) := by
  have key : ∀ k, k ≤ n → loop step (0, 0) = loop step (w64 (sumN t k), (k : Int)) := by
    intro k
    induction k with
    | zero => intro _; rfl
    | succ k ih => intro hk; rw [ih (by omega), loop_inl (hs k (by omega) _), w64_add]; rfl
  rw [key n (Nat.le_refl _)]
  exact loop_inr (he _)

/-! ### Right plants -/
structure Rp (p : LevitatePlant) : Prop where
  den : 1 ≤ p.Den ∧ p.Den ≤ 1000
  n1 : 1 ≤ p.Noise.length
  n3 : p.Noise.length ≤ 3
  noise : ∀ x ∈ p.Noise, 0 ≤ x ∧ x ≤ 10000
  m1 : 1 ≤ p.Maps.length
  m4 : p.Maps.length ≤ 4
  sq : ∀ m ∈ p.Maps, m.length = p.Noise.length
  row : ∀ m ∈ p.Maps, ∀ r ∈ m, r.length = p.Noise.length
  ent : ∀ m ∈ p.Maps, ∀ r ∈ m, ∀ x ∈ r, -1000 ≤ x ∧ x ≤ 1000
theorem fs_mem {α ρ : Type} {f : Nat → α → Option ρ} {r : ρ} : ∀ {l : List α} {k : Nat}, fs f k l = some r → ∃ i, ∃ h : i < l.length, f (k + i) l[i] = some r := by
  intro l
  induction l with
  | nil => intro k h; cases h
  | cons x xs ih =>
    intro k h
    cases hx : f k x with
    | some r' => simp only [fs, hx] at h; cases h; exact ⟨0, by simp, by simpa using hx⟩
    | none =>
      simp only [fs, hx] at h
      obtain ⟨i, hi, h'⟩ := ih h
      exact ⟨i + 1, by simpa using hi, by simpa [Nat.add_assoc, Nat.add_comm 1 i] using h'⟩
theorem rowErr_ne {n m i : Nat} {row : List Int} {r : LevitateMark × Int} (h : rowErr n m i row = some r) : r.2 ≠ 0 := by
  unfold rowErr at h; split at h
  · cases h; simp
  · split at h
    · cases h
    · cases h; simp
theorem mapErr_ne {n m : Nat} {rows : List (List Int)} {r : LevitateMark × Int} (h : mapErr n m rows = some r) : r.2 ≠ 0 := by
  unfold mapErr at h; split at h
  · cases h; simp
  · obtain ⟨i, hi, h'⟩ := fs_mem h; exact rowErr_ne h'
theorem noise_iff (l : List Int) : l.any noiseBad = false ↔ ∀ x ∈ l, 0 ≤ x ∧ x ≤ 10000 := by
  rw [List.any_eq_false]; simp [noiseBad]
theorem small_iff (m x : Int) : smallB m x = true ↔ -m ≤ x ∧ x ≤ m := by simp [smallB]
theorem ckP_right {p : LevitatePlant} : (ckP p).2 = 0 ↔ Rp p := by
  constructor
  · intro h
    unfold ckP at h
    by_cases h1 : 1 ≤ p.Den ∧ p.Den ≤ 1000
    · by_cases h2 : p.Noise.length = 0
      · simp [h1, h2] at h
      · by_cases h3 : 3 < p.Noise.length
        · simp only [h1, h2, h3, if_true, if_false, not_true_eq_false, and_self] at h; simp at h
        · cases h4 : p.Noise.any noiseBad with
          | true => simp only [h1, h2, h3, h4, if_true, if_false, not_true_eq_false, and_self] at h; simp at h
          | false =>
            by_cases h5 : p.Maps.length = 0
            · simp only [h1, h2, h3, h4, h5, if_true, if_false, not_true_eq_false, and_self] at h; simp at h
            · by_cases h6 : 4 < p.Maps.length
              · simp only [h1, h2, h3, h4, h5, h6, if_true, if_false, not_true_eq_false, and_self] at h; simp at h
              · simp only [h1, h2, h3, h4, h5, h6, if_true, if_false, not_true_eq_false, and_self] at h
                cases h7 : fs (mapErr p.Noise.length) 0 p.Maps with
                | some r =>
                  simp only [h7] at h
                  obtain ⟨i, hi, h'⟩ := fs_mem h7
                  exact absurd h (mapErr_ne h')
                | none =>
                  rw [fs_none] at h7
                  have hm : ∀ m ∈ p.Maps, ∃ i, mapErr p.Noise.length i m = none := fun m hm => by
                    obtain ⟨i, hi, rfl⟩ := List.getElem_of_mem hm
                    exact ⟨_, h7 i hi⟩
                  have hm2 : ∀ m ∈ p.Maps, m.length = p.Noise.length ∧ ∀ r ∈ m, r.length = p.Noise.length ∧ r.all (smallB 1000) = true := fun m hm' => by
                    obtain ⟨i, hi⟩ := hm m hm'
                    unfold mapErr at hi
                    split at hi
                    · cases hi
                    · rename_i hl
                      refine ⟨by simpa using hl, fun r hr => ?_⟩
                      rw [fs_none] at hi
                      obtain ⟨j, hj, rfl⟩ := List.getElem_of_mem hr
                      have := hi j hj
                      unfold rowErr at this
                      split at this
                      · cases this
                      · rename_i hrl
                        split at this
                        · rename_i ha; exact ⟨by simpa using hrl, ha⟩
                        · cases this
                  exact ⟨h1, by omega, by omega, (noise_iff _).1 h4, by omega, by omega, fun m hm => (hm2 m hm).1, fun m hm r hr => ((hm2 m hm).2 r hr).1, fun m hm r hr x hx => (small_iff 1000 x).1 (List.all_eq_true.1 ((hm2 m hm).2 r hr).2 x hx)⟩
    · rw [if_pos h1] at h; simp at h
  · intro h
    have e4 : fs (mapErr p.Noise.length) 0 p.Maps = none := by
      rw [fs_none]
      intro i hi
      have hm := List.getElem_mem hi
      unfold mapErr
      rw [if_neg (by simp [h.sq _ hm]), fs_none]
      intro j hj
      have hr := List.getElem_mem hj
      unfold rowErr
      rw [if_neg (by simp [h.row _ hm _ hr]), if_pos (List.all_eq_true.2 fun x hx => (small_iff 1000 x).2 (h.ent _ hm _ hr x hx))]
    unfold ckP
    rw [if_neg (by simp [h.den]), if_neg (by have := h.n1; omega), if_neg (by have := h.n3; omega), if_neg (by rw [Bool.not_eq_true]; exact (noise_iff _).2 h.noise), if_neg (by have := h.m1; omega), if_neg (by have := h.m4; omega), e4]
theorem Rp.ck {p : LevitatePlant} (h : Rp p) : ckP p = (⟨0, 0⟩, 0) := by
  have h0 := ckP_right.2 h
  unfold ckP at h0 ⊢
  rw [if_neg (by simp [h.den]), if_neg (by have := h.n1; omega), if_neg (by have := h.n3; omega), if_neg (by rw [Bool.not_eq_true]; exact (noise_iff _).2 h.noise), if_neg (by have := h.m1; omega), if_neg (by have := h.m4; omega)] at h0 ⊢
  cases h7 : fs (mapErr p.Noise.length) 0 p.Maps with
  | some r => simp only [h7] at h0; obtain ⟨i, hi, h'⟩ := fs_mem h7; exact absurd h0 (mapErr_ne h')
  | none => rfl
theorem Rp.sh {p : LevitatePlant} (h : Rp p) : Sh p :=
  ⟨by have := h.n3; omega, by have := h.m4; omega, fun m hm => by have := h.sq m hm; have := h.n3; omega, fun m hm r hr => by have := h.row m hm r hr; have := h.n3; omega⟩

theorem rCheckPlant_ok (p : LevitatePlant) (h : Sh p) : ref02_CheckPlant_spec p = some (ckP p) := by
  unfold ref02_CheckPlant_spec
  rw [bwithin_ok]
  have hn : loop (ref02_CheckPlant_s0 p) 0 = some (oi (fs (fun _ x => if noiseBad x then some ((⟨0, 0⟩, 2) : LevitateMark × Int) else none) 0 p.Noise)) := by
    refine loop_fs p.Noise _ (fun k hk => ?_) ?_
    · unfold ref02_CheckPlant_s0
      rw [lt_nat hk, idx_nat hk, w64n k (by have := h.noise; omega)]
      simp only [cond_true, Option.bind_some, bwithin_ok]
      show (bif noiseBad p.Noise[k] then _ else _) = _
      cases noiseBad p.Noise[k] <;> rfl
    · unfold ref02_CheckPlant_s0
      rw [lt_nat_no]; rfl
  have hloop : loop (ref02_CheckPlant_s3 p) 0 = some (oi (fs (mapErr p.Noise.length) 0 p.Maps)) := by
    refine loop_fs p.Maps _ (fun k hk => ?_) ?_
    · unfold ref02_CheckPlant_s3
      rw [lt_nat hk, idx_nat hk]
      simp only [cond_true, Option.bind_some, len_dec]
      have hm := List.getElem_mem hk
      unfold mapErr
      by_cases hn : p.Maps[k].length = p.Noise.length
      · simp only [hn, decide_true, Bool.not_true, cond_false, ne_eq, not_true_eq_false, if_false]
        have hin : loop (ref02_CheckPlant_s2 p (k : Int)) 0 = some (oi ((fs (rowErr p.Noise.length k) 0 p.Maps[k]).map fun r => (.inr (.inl r) : Int ⊕ ((LevitateMark × Int) ⊕ Unit)))) := by
          rw [loop_fs p.Maps[k] (fun i row => (rowErr p.Noise.length k i row).map fun r => (.inr (.inl r) : Int ⊕ ((LevitateMark × Int) ⊕ Unit)))]
          · congr 2
            have : ∀ (l : List (List Int)) j, fs (fun i row => (rowErr p.Noise.length k i row).map fun r => (.inr (.inl r) : Int ⊕ ((LevitateMark × Int) ⊕ Unit))) j l = (fs (rowErr p.Noise.length k) j l).map fun r => .inr (.inl r) := by
              intro l
              induction l with
              | nil => intro j; rfl
              | cons x xs ih =>
                intro j
                simp only [fs]
                cases rowErr p.Noise.length k j x with
                | some r => rfl
                | none => exact ih _
            exact this p.Maps[k] 0
          · intro i hi
            unfold ref02_CheckPlant_s2
            rw [idx_nat hk, Option.bind_some, lt_nat hi, cond_true, Option.bind_some, idx_nat hi, Option.bind_some]
            have hr := h.row _ hm _ (List.getElem_mem hi)
            generalize hrow : p.Maps[k][i] = row at *
            have h1 : loop (ref02_CheckPlant_s1 row (k : Int) (i : Int)) 0 = some (oi (fs (fun _ x => if smallB 1000 x then none else some ((.inr (.inl (.inr (.inl ((⟨k, i⟩, 2) : LevitateMark × Int))))) : Int ⊕ (((Int) ⊕ ((LevitateMark × Int) ⊕ (Unit))) ⊕ (Unit)))) 0 row)) := by
              refine loop_fs row _ (fun t ht => ?_) ?_
              · unfold ref02_CheckPlant_s1
                rw [lt_nat ht, idx_nat ht, w64n t (by omega)]
                simp only [cond_true, Option.bind_some, bwithin_ok]
                show (bif !smallB 1000 row[t] then _ else _) = _
                cases smallB 1000 row[t] <;> rfl
              · unfold ref02_CheckPlant_s1
                rw [lt_nat_no]; rfl
            have h2 : fs (fun _ x => if smallB 1000 x then none else some ((.inr (.inl (.inr (.inl ((⟨k, i⟩, 2) : LevitateMark × Int))))) : Int ⊕ (((Int) ⊕ ((LevitateMark × Int) ⊕ (Unit))) ⊕ (Unit)))) 0 row = if row.all (smallB 1000) then none else some (.inr (.inl (.inr (.inl (⟨k, i⟩, 2))))) := by
              have : ∀ (l : List Int) t, fs (fun _ x => if smallB 1000 x then none else some ((.inr (.inl (.inr (.inl ((⟨k, i⟩, 2) : LevitateMark × Int))))) : Int ⊕ (((Int) ⊕ ((LevitateMark × Int) ⊕ (Unit))) ⊕ (Unit)))) t l = if l.all (smallB 1000) then none else some (.inr (.inl (.inr (.inl (⟨k, i⟩, 2))))) := by
                intro l
                induction l with
                | nil => intro t; rfl
                | cons x xs ih =>
                  intro t
                  cases hx : smallB 1000 x with
                  | true => simp [fs, hx, ih]
                  | false => simp [fs, hx]
              exact this row 0
            simp only [len_dec, h1, h2, Option.bind_some]
            rw [w64n i (by have := h.rows _ hm; omega)]
            unfold rowErr
            by_cases h3 : row.length = p.Noise.length
            · by_cases h4 : row.all (smallB 1000) = true
              · simp [h3, h4, fsS, oi, jn0]
              · simp [h3, h4, fsS, oi, jn0]
            · simp [h3, fsS]
          · unfold ref02_CheckPlant_s2
            rw [idx_nat hk, Option.bind_some, lt_nat_no]; rfl
        rw [hin]
        cases fs (rowErr p.Noise.length k) 0 p.Maps[k] with
        | some r => rfl
        | none => simp only [Option.bind_some, Option.map_none, oi, jn0, fsS]; rw [w64n k (by have := h.maps; omega)]
      · simp [hn, fsS]
    · unfold ref02_CheckPlant_s3
      rw [lt_nat_no]; rfl
  have hn2 : fs (fun _ x => if noiseBad x then some ((⟨0, 0⟩, 2) : LevitateMark × Int) else none) 0 p.Noise = if p.Noise.any noiseBad then some (⟨0, 0⟩, 2) else none := by
    have : ∀ (l : List Int) t, fs (fun _ x => if noiseBad x then some ((⟨0, 0⟩, 2) : LevitateMark × Int) else none) t l = if l.any noiseBad then some (⟨0, 0⟩, 2) else none := by
      intro l
      induction l with
      | nil => intro t; rfl
      | cons x xs ih =>
        intro t
        cases hx : noiseBad x with
        | true => simp [fs, hx]
        | false => simp [fs, hx, ih]
    exact this p.Noise 0
  rw [hloop, hn, hn2]
  have e1 : (decide ((p.Noise.length : Int) = 0)) = decide (p.Noise.length = 0) := len_dec _ 0
  have e2 : (decide (3 < (p.Noise.length : Int))) = decide (3 < p.Noise.length) := by rw [Bool.eq_iff_iff, decide_eq_true_iff, decide_eq_true_iff]; omega
  have e3 : (decide ((p.Maps.length : Int) = 0)) = decide (p.Maps.length = 0) := len_dec _ 0
  have e4 : (decide (4 < (p.Maps.length : Int))) = decide (4 < p.Maps.length) := by rw [Bool.eq_iff_iff, decide_eq_true_iff, decide_eq_true_iff]; omega
  have e5 : (decide (1 ≤ p.Den) && decide (p.Den ≤ 1000)) = decide (1 ≤ p.Den ∧ p.Den ≤ 1000) := by rw [Bool.eq_iff_iff]; simp
  rw [e1, e2, e3, e4, e5]
  unfold ckP
  by_cases h1 : 1 ≤ p.Den ∧ p.Den ≤ 1000 <;> by_cases h2 : p.Noise.length = 0 <;> by_cases h3 : 3 < p.Noise.length <;> cases h4 : p.Noise.any noiseBad <;> by_cases h5 : p.Maps.length = 0 <;> by_cases h6 : 4 < p.Maps.length <;>
    simp only [h1, h2, h3, h5, h6, decide_true, decide_false, cond_true, cond_false, Bool.not_true, Bool.not_false, if_true, if_false, not_true_eq_false, not_false_eq_true, Option.bind_some, oi, jn0, Bool.false_eq_true] <;>
    (cases fs (mapErr p.Noise.length) 0 p.Maps <;> rfl)
theorem lopen_ok (p : LevitatePlant) (h : Sh p) : levitate_open_spec p = some (⟨p⟩, (ckP p).2) := by
  unfold levitate_open_spec; rw [lCheckPlant_ok p h]; rfl

/-! ### States and boxes -/
def stE (p : LevitatePlant) (x : List Int) : Int := if x.length ≠ p.Noise.length then 10 else if x.all (smallB 100000) then 0 else 2
def bxE (p : LevitatePlant) (x : List Int) : Int := if stE p x ≠ 0 then stE p x else if x.any neg0 then 2 else 0
theorem lstateErr_ok (p : LevitatePlant) (x : List Int) (hx : x.length < 1073741824) : levitate_plant_stateErr_spec ⟨p⟩ x = some (stE p x) := by
  unfold levitate_plant_stateErr_spec
  simp only [lunless_ok, Option.bind_some, levitate_allSmall_spec, allSmall_ok x 100000 (by decide) hx, first2, len_dec]
  unfold stE
  by_cases h : x.length = p.Noise.length <;> cases h2 : x.all (smallB 100000) <;> simp [h]
theorem lboxErr_ok (p : LevitatePlant) (x : List Int) (hx : x.length < 1073741824) : levitate_plant_boxErr_spec ⟨p⟩ x = some (bxE p x) := by
  unfold levitate_plant_boxErr_spec
  simp only [CF102_ok x hx, lstateErr_ok p x hx, lunless_ok, Option.bind_some, first2]
  unfold bxE
  by_cases h : stE p x = 0 <;> cases h2 : x.any neg0 <;> simp [h]
def opB (p : LevitatePlant) (x : List Int) : Int := if (ckP p).2 ≠ 0 then (ckP p).2 else bxE p x
theorem lopenBox_ok (p : LevitatePlant) (x : List Int) (h : Sh p) (hx : x.length < 1073741824) : levitate_openBox_spec p x = some (⟨p⟩, opB p x) := by
  unfold levitate_openBox_spec
  rw [lopen_ok p h]
  simp only [Option.bind_some, lboxErr_ok p x hx]
  unfold opB
  by_cases h1 : (ckP p).2 = 0 <;> simp [h1]
structure Bx (p : LevitatePlant) (x : List Int) : Prop where
  len : x.length = p.Noise.length
  ge : ∀ k, k < x.length → 0 ≤ gi x k
  le : ∀ k, k < x.length → gi x k ≤ 100000
theorem bxE_right {p : LevitatePlant} {x : List Int} : bxE p x = 0 ↔ Bx p x := by
  unfold bxE stE
  constructor
  · intro h
    by_cases h1 : x.length = p.Noise.length
    · cases h2 : x.all (smallB 100000) with
      | false => simp [h1, h2] at h
      | true =>
        cases h3 : x.any neg0 with
        | true => simp [h1, h2, h3] at h
        | false =>
          rw [List.all_eq_true] at h2
          rw [List.any_eq_false] at h3
          exact ⟨h1, fun k hk => by have := h3 _ (gi_mem hk); simp [neg0] at this; omega, fun k hk => ((small_iff _ _).1 (h2 _ (gi_mem hk))).2⟩
    · simp [h1] at h
  · intro h
    have h2 : x.all (smallB 100000) = true := List.all_eq_true.2 fun y hy => by
      obtain ⟨k, hk, rfl⟩ := mem_gi hy
      have := h.ge k hk; have := h.le k hk
      exact (small_iff _ _).2 (by omega)
    have h3 : x.any neg0 = false := List.any_eq_false.2 fun y hy => by
      obtain ⟨k, hk, rfl⟩ := mem_gi hy
      have := h.ge k hk
      simp [neg0]; omega
    simp [h.len, h2, h3]
end Go.Gw

end
section
set_option maxRecDepth 4096
set_option linter.unusedSimpArgs false
set_option linter.unusedVariables false
namespace Go.Gw
open Go

def gm (p : LevitatePlant) (m : Nat) : List (List Int) := p.Maps.getD m []
theorem gm_eq {p : LevitatePlant} {m : Nat} (h : m < p.Maps.length) : p.Maps[m] = gm p m := by simp [gm, h]
theorem idx_gm {p : LevitatePlant} {m : Nat} (h : m < p.Maps.length) : idx p.Maps (m : Int) = some (gm p m) := by rw [idx_nat h, gm_eq h]
theorem gm_mem {p : LevitatePlant} {m : Nat} (h : m < p.Maps.length) : gm p m ∈ p.Maps := by rw [← gm_eq h]; exact List.getElem_mem h
def ge (p : LevitatePlant) (m i k : Nat) : Int := gi (gr (gm p m) i) k
theorem Rp.row_len {p : LevitatePlant} (h : Rp p) {m i : Nat} (hm : m < p.Maps.length) (hi : i < p.Noise.length) : (gr (gm p m) i).length = p.Noise.length :=
  h.row _ (gm_mem hm) _ (gr_mem (by rw [h.sq _ (gm_mem hm)]; exact hi))
theorem Rp.ge_b {p : LevitatePlant} (h : Rp p) {m i k : Nat} (hm : m < p.Maps.length) (hi : i < p.Noise.length) (hk : k < p.Noise.length) : -1000 ≤ ge p m i k ∧ ge p m i k ≤ 1000 :=
  h.ent _ (gm_mem hm) _ (gr_mem (by rw [h.sq _ (gm_mem hm)]; exact hi)) _ (gi_mem (by rw [h.row_len hm hi]; exact hk))
theorem Rp.noise_b {p : LevitatePlant} (h : Rp p) {i : Nat} (hi : i < p.Noise.length) : 0 ≤ gi p.Noise i ∧ gi p.Noise i ≤ 10000 := h.noise _ (gi_mem hi)

def reach (p : LevitatePlant) (m i : Nat) (box : List Int) : Int := sumN (fun k => ((ge p m i k).natAbs : Int) * gi box k) p.Noise.length
def needI (p : LevitatePlant) (m i : Nat) (box : List Int) : Int := (reach p m i box + p.Den - 1) / p.Den + gi p.Noise i
theorem reach_b {p : LevitatePlant} (h : Rp p) {m i : Nat} (hm : m < p.Maps.length) (hi : i < p.Noise.length) {box : List Int} (hb : ∀ k, k < p.Noise.length → 0 ≤ gi box k ∧ gi box k ≤ 100000) : 0 ≤ reach p m i box ∧ reach p m i box ≤ 300000000 := by
  constructor
  · exact sumN_nonneg fun k hk => Int.mul_nonneg (by omega) (hb k hk).1
  · have h1 : reach p m i box ≤ (p.Noise.length : Int) * 100000000 := sumN_bound fun k hk => by
      have h2 := h.ge_b hm hi hk
      have h3 := hb k hk
      have : ((ge p m i k).natAbs : Int) * gi box k ≤ 1000 * 100000 := Int.mul_le_mul (by omega) h3.2 h3.1 (by omega)
      omega
    have := h.n3
    omega
theorem lceil_ok {n by_ : Int} (h0 : 0 ≤ n) (h1 : n ≤ 4000000000000000000) (h2 : 1 ≤ by_) (h3 : by_ ≤ 4000000000000000000) : levitate_ceil_spec n by_ = some ((n + by_ - 1) / by_) := by
  unfold levitate_ceil_spec
  have : decide (n < 0) = false := by simp; omega
  rw [this, cond_false, w64_id (x := n + by_) (by omega), w64_id (by omega), quo_ok (by omega), Int.tdiv_eq_ediv_of_nonneg (by omega)]
  have h4 : 0 ≤ (n + by_ - 1) / by_ := Int.ediv_nonneg (by omega) (by omega)
  have h5 : (n + by_ - 1) / by_ ≤ n + by_ - 1 := Int.ediv_le_self _ (by omega)
  rw [Option.bind_some, w64_id (by omega)]
theorem need_ok {p : LevitatePlant} (h : Rp p) {m i : Nat} (hm : m < p.Maps.length) (hi : i < p.Noise.length) {box : List Int} (hl : box.length = p.Noise.length) (hb : ∀ k, k < p.Noise.length → 0 ≤ gi box k ∧ gi box k ≤ 100000) :
    levitate_plant_need_spec ⟨p⟩ (m : Int) (i : Int) box = some (needI p m i box) := by
  unfold levitate_plant_need_spec
  have hmi : i < (gm p m).length := by rw [h.sq _ (gm_mem hm)]; exact hi
  rw [idx_gm hm, Option.bind_some, idx_gr hmi, Option.bind_some]
  have hr := reach_b h hm hi hb
  rw [loop_sum (p.Noise.length) (fun k => ((ge p m i k).natAbs : Int) * gi box k)]
  · rw [Option.bind_some, idx_gi hi, Option.bind_some]
    change Option.bind (levitate_ceil_spec (w64 (reach p m i box)) p.Den) _ = _
    have hn := h.noise_b hi
    have hd := h.den
    rw [w64_id (by omega), lceil_ok hr.1 (by omega) hd.1 (by omega), Option.bind_some]
    have h4 : 0 ≤ (reach p m i box + p.Den - 1) / p.Den := Int.ediv_nonneg (by omega) (by omega)
    have h5 : (reach p m i box + p.Den - 1) / p.Den ≤ reach p m i box + p.Den - 1 := Int.ediv_le_self _ (by omega)
    rw [w64_id (by omega)]; rfl
  · intro k hk a
    unfold levitate_plant_need_s0
    have hrl := h.row_len hm hi
    simp only [hrl, lt_nat hk, cond_true]
    rw [idx_gi (by rw [hrl]; exact hk), Option.bind_some, idx_gi (by omega), Option.bind_some]
    have hg := h.ge_b hm hi hk
    change Option.bind (levitate_size_spec (ge p m i k)) _ = _
    rw [lsize_ok (by omega), Option.bind_some, w64_add', w64n k (by have := h.n3; omega)]
  · intro a
    unfold levitate_plant_need_s0
    simp only [h.row_len hm hi, lt_nat_no]; rfl
theorem reach_mono {p : LevitatePlant} {m i : Nat} {a b : List Int} (hab : ∀ k, k < p.Noise.length → gi a k ≤ gi b k) : reach p m i a ≤ reach p m i b :=
  sumN_le fun k hk => Int.mul_le_mul_of_nonneg_left (hab k hk) (by omega)
theorem needI_mono {p : LevitatePlant} (h : Rp p) {m i : Nat} {a b : List Int} (hab : ∀ k, k < p.Noise.length → gi a k ≤ gi b k) : needI p m i a ≤ needI p m i b := by
  unfold needI
  have := reach_mono (m := m) (i := i) hab
  have : (reach p m i a + p.Den - 1) / p.Den ≤ (reach p m i b + p.Den - 1) / p.Den := Int.ediv_le_ediv (by have := h.den; omega) (by omega)
  omega

/-! ### The first row by which a box is left -/
def brkRow (p : LevitatePlant) (box : List Int) (m : Nat) : Option (Nat × Nat) := fs (fun i b => if b < needI p m i box then some (m, i) else none) 0 box
def brk (p : LevitatePlant) (box : List Int) : Option (Nat × Nat) := fs (fun m _ => brkRow p box m) 0 p.Maps
def brkV : Option (Nat × Nat) → LevitateMark × Bool
  | some (m, i) => (⟨m, i⟩, true)
  | none => (⟨0, 0⟩, false)
theorem brk_some {p : LevitatePlant} {box : List Int} {m i : Nat} (h : brk p box = some (m, i)) : m < p.Maps.length ∧ i < box.length ∧ gi box i < needI p m i box := by
  obtain ⟨j, hj, h1⟩ := fs_mem h
  obtain ⟨k, hk, h2⟩ := fs_mem h1
  split at h2
  · rename_i hlt
    cases h2
    exact ⟨by omega, by omega, by rw [← gi_eq (by omega)]; simpa using hlt⟩
  · cases h2
theorem brk_none {p : LevitatePlant} {box : List Int} (h : brk p box = none) : ∀ m, m < p.Maps.length → ∀ i, i < box.length → needI p m i box ≤ gi box i := by
  intro m hm i hi
  unfold brk at h
  rw [fs_none] at h
  have h1 := h m hm
  unfold brkRow at h1
  rw [fs_none] at h1
  have h2 := h1 i hi
  split at h2
  · cases h2
  · rename_i hlt
    rw [gi_eq hi] at hlt
    simpa using hlt
theorem map_fs {α ρ σ : Type} (g : ρ → σ) (f : Nat → α → Option ρ) : ∀ (l : List α) (k : Nat), fs (fun i x => (f i x).map g) k l = (fs f k l).map g
  | [], _ => rfl
  | x :: xs, k => by
    simp only [fs]
    cases f k x with
    | some r => rfl
    | none => exact map_fs g f xs (k + 1)
theorem broken_ok {p : LevitatePlant} (h : Rp p) {box : List Int} (hl : box.length = p.Noise.length) (hb : ∀ k, k < p.Noise.length → 0 ≤ gi box k ∧ gi box k ≤ 100000) :
    levitate_plant_broken_spec ⟨p⟩ box = some (brkV (brk p box)) := by
  unfold levitate_plant_broken_spec
  have hin : ∀ m, m < p.Maps.length → loop (levitate_plant_broken_s0 box ⟨p⟩ (m : Int)) 0 = some (oi ((brkRow p box m).map fun r => (.inr (.inl (brkV (some r))) : Int ⊕ ((LevitateMark × Bool) ⊕ Unit)))) := by
    intro m hm
    rw [loop_fs box (fun i b => (if b < needI p m i box then some (m, i) else none).map fun r => (.inr (.inl (brkV (some r))) : Int ⊕ ((LevitateMark × Bool) ⊕ Unit)))]
    · rw [map_fs]; rfl
    · intro k hk
      unfold levitate_plant_broken_s0
      rw [lt_nat hk, idx_nat hk, cond_true, Option.bind_some, need_ok h hm (by omega) hl hb, Option.bind_some, w64n k (by have := h.n3; omega)]
      by_cases hlt : box[k] < needI p m k box <;> simp [hlt, fsS, brkV]
    · unfold levitate_plant_broken_s0
      rw [lt_nat_no]; rfl
  rw [loop_fs p.Maps (fun m _ => (brkRow p box m).map fun r => brkV (some r))]
  · rw [map_fs (fun r => brkV (some r)) (fun m _ => brkRow p box m)]
    unfold brk
    cases fs (fun m _ => brkRow p box m) 0 p.Maps <;> rfl
  · intro m hm
    unfold levitate_plant_broken_s1
    rw [lt_nat hm, cond_true, hin m hm, Option.bind_some, w64n m (by have := h.m4; omega)]
    cases brkRow p box m <;> rfl
  · unfold levitate_plant_broken_s1
    rw [lt_nat_no]; rfl

/-! ### The least box -/
def Kept (p : LevitatePlant) (K : List Int) : Prop := ∀ m, m < p.Maps.length → ∀ i, i < p.Noise.length → needI p m i K ≤ gi K i
structure LbOk (p : LevitatePlant) (start b : List Int) : Prop where
  len : b.length = p.Noise.length
  from_ : ∀ k, k < p.Noise.length → gi start k ≤ gi b k
  le : ∀ k, k < p.Noise.length → gi b k ≤ 100000
  kept : Kept p b
  least : ∀ K, Kept p K → (∀ k, k < p.Noise.length → gi start k ≤ gi K k) → ∀ k, k < p.Noise.length → gi b k ≤ gi K k
def LbNo (p : LevitatePlant) (start : List Int) : Prop := ∀ K, Kept p K → (∀ k, k < p.Noise.length → gi start k ≤ gi K k) → ¬ ∀ k, k < p.Noise.length → gi K k ≤ 100000
def LbR (p : LevitatePlant) (start : List Int) (r : List Int × Int) : Prop := (r.2 = 0 ∧ LbOk p start r.1) ∨ (r = ([], 24) ∧ LbNo p start)
theorem gi_set {l : List Int} {i k : Nat} {v : Int} (hi : i < l.length) : gi (l.set i v) k = if i = k then v else gi l k := by
  unfold gi
  simp only [List.getD_eq_getElem?_getD, List.getElem?_set]
  by_cases h : i = k
  · subst h; simp [hi]
  · simp [h]
structure LbI (p : LevitatePlant) (start box : List Int) : Prop where
  len : box.length = p.Noise.length
  from_ : ∀ k, k < p.Noise.length → gi start k ≤ gi box k
  rng : ∀ k, k < p.Noise.length → 0 ≤ gi box k ∧ gi box k ≤ 100000
  least : ∀ K, Kept p K → (∀ k, k < p.Noise.length → gi start k ≤ gi K k) → ∀ k, k < p.Noise.length → gi box k ≤ gi K k
theorem sumN_lt {t u : Nat → Int} {j : Nat} : ∀ {n : Nat}, j < n → (∀ k, k < n → t k ≤ u k) → t j < u j → sumN t n < sumN u n
  | 0, h, _, _ => by omega
  | n + 1, h, hle, hlt => by
    simp only [sumN]
    by_cases hj : j = n
    · subst hj
      have := sumN_le (n := j) (fun k hk => hle k (by omega)); omega
    · have := sumN_lt (n := n) (by omega) (fun k hk => hle k (by omega)) hlt
      have := hle n (by omega); omega
theorem lLeastBox_ok {p : LevitatePlant} (h : Rp p) {start : List Int} (hs : Bx p start) : Runs (levitate_LeastBox_spec p start) (LbR p start) := by
  unfold levitate_LeastBox_spec
  have hl : start.length < 1073741824 := by have := hs.len; have := h.n3; omega
  rw [lopenBox_ok p start h.sh hl]
  have h0 : opB p start = 0 := by unfold opB; rw [h.ck, bxE_right.2 hs]; simp
  simp only [Option.bind_some, h0, decide_true, Bool.not_true, cond_false, slices_Clone_int_spec]
  rw [app_ok (by simp; omega), List.nil_append, Option.bind_some, Option.bind_some]
  have hI0 : LbI p start start := ⟨hs.len, fun _ _ => Int.le_refl _, fun k hk => ⟨hs.ge k (by rw [hs.len]; exact hk), hs.le k (by rw [hs.len]; exact hk)⟩, fun _ _ hK => hK⟩
  rw [broken_ok h hI0.len hI0.rng, Option.bind_some]
  refine Runs.callR (R := fun o => match o with | .inl r => LbR p start r | .inr b => LbR p start (b, 0)) ?_ ?_
  · refine Runs.loop (fun s => LbI p start s.1 ∧ s.2 = ((brkV (brk p s.1)).2, (brkV (brk p s.1)).1.Map, (brkV (brk p s.1)).1.Row)) (fun s => (sumN (fun k => 100000 - gi s.1 k) p.Noise.length).toNat) ⟨hI0, rfl⟩ ?_
    rintro ⟨box, left, m, i⟩ ⟨hI, he⟩
    replace hI : LbI p start box := hI
    simp only [Prod.mk.injEq] at he
    obtain ⟨rfl, rfl, rfl⟩ := he
    unfold levitate_LeastBox_s0
    cases hb : brk p box with
    | none =>
      simp only [brkV, cond_false]
      refine Runs.some ?_
      refine .inl ⟨rfl, hI.len, hI.from_, fun k hk => (hI.rng k hk).2, fun m hm i hi => brk_none hb m hm i (by rw [hI.len]; exact hi), hI.least⟩
    | some mi =>
      obtain ⟨m, i⟩ := mi
      obtain ⟨hm, hi, hlt⟩ := brk_some hb
      have hi' : i < p.Noise.length := by rw [← hI.len]; exact hi
      simp only [brkV, cond_true]
      rw [need_ok h hm hi' hI.len hI.rng, Option.bind_some, idx_gi hi, Option.bind_some, Int.toNat_natCast, idx_gi (by simpa using hi), gi_set hi, if_pos rfl, Option.bind_some]
      have hleast : ∀ K, Kept p K → (∀ k, k < p.Noise.length → gi start k ≤ gi K k) → needI p m i box ≤ gi K i := fun K hK hsK => Int.le_trans (needI_mono h (hI.least K hK hsK)) (hK m hm i hi')
      by_cases hbig : 100000 < needI p m i box
      · rw [show decide (100000 < needI p m i box) = true by simpa using hbig, cond_true]
        refine Runs.some ?_
        refine .inr ⟨rfl, fun K hK hsK hle => ?_⟩
        have := hleast K hK hsK
        have := hle i hi'
        omega
      · rw [show decide (100000 < needI p m i box) = false by simpa using hbig, cond_false]
        have hg : ∀ k, gi (box.set i (needI p m i box)) k = if i = k then needI p m i box else gi box k := fun k => gi_set hi
        have hI' : LbI p start (box.set i (needI p m i box)) := by
          refine ⟨by rw [List.length_set]; exact hI.len, fun k hk => ?_, fun k hk => ?_, fun K hK hsK k hk => ?_⟩
          · rw [hg]; split
            · rename_i e; subst e; have := hI.from_ i hi'; omega
            · exact hI.from_ k hk
          · rw [hg]; split
            · rename_i e; subst e; have := hI.rng i hi'; omega
            · exact hI.rng k hk
          · rw [hg]; split
            · rename_i e; subst e; exact hleast K hK hsK
            · exact hI.least K hK hsK k hk
        rw [broken_ok h hI'.len hI'.rng, Option.bind_some]
        refine Runs.some ⟨⟨hI', rfl⟩, ?_⟩
        have h1 : sumN (fun k => 100000 - gi (box.set i (needI p m i box)) k) p.Noise.length < sumN (fun k => 100000 - gi box k) p.Noise.length := by
          refine sumN_lt hi' (fun k hk => ?_) ?_
          · rw [hg]; split
            · rename_i e; subst e; omega
            · omega
          · simp only [hg, if_pos]; omega
        have h2 : 0 ≤ sumN (fun k => 100000 - gi (box.set i (needI p m i box)) k) p.Noise.length := sumN_nonneg fun k hk => by have := hI'.rng k hk; omega
        show (sumN (fun k => 100000 - gi (box.set i (needI p m i box)) k) p.Noise.length).toNat < (sumN (fun k => 100000 - gi box k) p.Noise.length).toNat
        omega
  · intro o ho
    cases o with
    | inl r => exact Runs.jl ho
    | inr b => exact Runs.some ho
theorem LbR.eq {p : LevitatePlant} {start : List Int} {r s : List Int × Int} (hr : LbR p start r) (hs : LbR p start s) : r = s := by
  rcases hr with ⟨h1, h2⟩ | ⟨h1, h2⟩ <;> rcases hs with ⟨h3, h4⟩ | ⟨h3, h4⟩
  · refine Prod.ext (list_ext_gi (by rw [h2.len, h4.len]) fun k hk => ?_) (by rw [h1, h3])
    rw [h2.len] at hk
    exact Int.le_antisymm (h2.least _ h4.kept h4.from_ k hk) (h4.least _ h2.kept h2.from_ k hk)
  · exact absurd h2.le (h4 _ h2.kept h2.from_)
  · exact absurd h4.le (h2 _ h4.kept h4.from_)
  · rw [h1, h3]
end Go.Gw

end
section
set_option maxRecDepth 4096
set_option linter.unusedSimpArgs false
set_option linter.unusedVariables false
namespace Go.Gw
open Go

theorem wrapU (x : Int) : IntKind.wrap .u64 x = x % 18446744073709551616 := by simp [IntKind.wrap, IntKind.bits, IntKind.signed]
def wOf (x : Int) : Arr3_U64 := ⟨x % 18446744073709551616, x / 18446744073709551616 % 18446744073709551616, x / 340282366920938463463374607431768211456 % 18446744073709551616⟩
theorem wOf_eq {x : Int} {a b c : Int} (h0 : x % 18446744073709551616 = a) (h1 : x / 18446744073709551616 % 18446744073709551616 = b) (h2 : x / 340282366920938463463374607431768211456 % 18446744073709551616 = c) : wOf x = ⟨a, b, c⟩ := by
  subst h0 h1 h2; rfl
theorem wOf_congr {x y : Int} (h : x % 6277101735386680763835789423207666416102355444464034512896 = y % 6277101735386680763835789423207666416102355444464034512896) : wOf x = wOf y := by
  unfold wOf; congr 1
  · omega
  · omega
  · omega
theorem wOf_inj {x y : Int} (h : wOf x = wOf y) : x % 6277101735386680763835789423207666416102355444464034512896 = y % 6277101735386680763835789423207666416102355444464034512896 := by
  unfold wOf at h
  simp only [Arr3_U64.mk.injEq] at h
  omega
theorem shrU (x : Int) (k : Nat) (hk : k ≤ 64) : shrS .u64 x (k : Int) = some (x / 2 ^ k) := by
  unfold shrS
  rw [if_pos ⟨by omega, by simp [IntKind.bits]; omega⟩, Int.toNat_natCast, Int.fdiv_eq_ediv_of_nonneg _ (Int.le_of_lt (Int.pow_pos (by decide)))]
theorem shrI (x : Int) (k : Nat) (hk : k ≤ 64) : shrS .i64 x (k : Int) = some (x / 2 ^ k) := by
  unfold shrS
  rw [if_pos ⟨by omega, by simp [IntKind.bits]; omega⟩, Int.toNat_natCast, Int.fdiv_eq_ediv_of_nonneg _ (Int.le_of_lt (Int.pow_pos (by decide)))]
theorem wideOf_ok {n : Int} (h : -9223372036854775808 ≤ n ∧ n ≤ 9223372036854775807) : levitate_wideOf_spec n = some (wOf n) := by
  unfold levitate_wideOf_spec
  rw [show (63 : Int) = ((63 : Nat) : Int) from rfl, shrI n 63 (by omega), Option.bind_some, wrapU, wrapU]
  congr 1
  symm
  simp only [show ((2 : Int) ^ 63) = 9223372036854775808 by decide]
  have h1 : n / 340282366920938463463374607431768211456 = n / 9223372036854775808 := by omega
  have h2 : n / 18446744073709551616 = n / 9223372036854775808 := by omega
  refine wOf_eq rfl ?_ ?_
  · rw [h2]
  · rw [h1]
theorem below_ok (x : Int) : levitate_wide_below_spec (wOf x) = some (decide (3138550867693340381917894711603833208051177722232017256448 ≤ x % 6277101735386680763835789423207666416102355444464034512896)) := by
  unfold levitate_wide_below_spec
  rw [show (63 : Int) = ((63 : Nat) : Int) from rfl, shrU _ 63 (by omega), Option.bind_some]
  congr 1
  rw [decide_eq_decide]
  simp only [wOf]
  omega
theorem addC_ok {a b c : Int} (h0 : 0 ≤ a) (h1 : 0 ≤ b) (h2 : 0 ≤ c ∧ c ≤ 1) : addC a b c = some ((a + b + c) % 18446744073709551616, (a + b + c) / 18446744073709551616) := by
  unfold addC; rw [if_pos ⟨h0, h1, h2⟩]
theorem loop_inl' {σ β : Type} {step : σ → Option (σ ⊕ β)} {s s' : σ} {r : Option β} (h : step s = some (.inl s')) (h2 : loop step s' = r) : loop step s = r := by rw [loop_inl h]; exact h2
theorem div2 (x : Int) : x / 340282366920938463463374607431768211456 = x / 18446744073709551616 / 18446744073709551616 := by omega
theorem plus_ok (x y : Int) : levitate_wide_plus_spec (wOf x) (wOf y) = some (wOf (x + y)) := by
  unfold levitate_wide_plus_spec
  have hl : loop (levitate_wide_plus_s0 (wOf x) (wOf y)) (0, 0, 0, 0, 0) = some ((wOf (x + y)).e0, (wOf (x + y)).e1, (wOf (x + y)).e2) := by
    simp only [wOf]
    generalize hx0 : x % 18446744073709551616 = x0
    generalize hx1 : x / 18446744073709551616 % 18446744073709551616 = x1
    generalize hx2 : x / 340282366920938463463374607431768211456 % 18446744073709551616 = x2
    generalize hy0 : y % 18446744073709551616 = y0
    generalize hy1 : y / 18446744073709551616 % 18446744073709551616 = y1
    generalize hy2 : y / 340282366920938463463374607431768211456 % 18446744073709551616 = y2
    have a0 : addC x0 y0 0 = some ((x0 + y0 + 0) % 18446744073709551616, (x0 + y0 + 0) / 18446744073709551616) := addC_ok (by omega) (by omega) (by omega)
    generalize hc0 : (x0 + y0 + 0) / 18446744073709551616 = c0 at a0
    have a1 : addC x1 y1 c0 = some ((x1 + y1 + c0) % 18446744073709551616, (x1 + y1 + c0) / 18446744073709551616) := addC_ok (by omega) (by omega) (by omega)
    generalize hc1 : (x1 + y1 + c0) / 18446744073709551616 = c1 at a1
    have a2 : addC x2 y2 c1 = some ((x2 + y2 + c1) % 18446744073709551616, (x2 + y2 + c1) / 18446744073709551616) := addC_ok (by omega) (by omega) (by omega)
    refine loop_inl' (s' := (c0, 1, (x0 + y0 + 0) % 18446744073709551616, 0, 0)) ?_ (loop_inl' (s' := (c1, 2, (x0 + y0 + 0) % 18446744073709551616, (x1 + y1 + c0) % 18446744073709551616, 0)) ?_ (loop_inl' (s' := ((x2 + y2 + c1) / 18446744073709551616, 3, (x0 + y0 + 0) % 18446744073709551616, (x1 + y1 + c0) % 18446744073709551616, (x2 + y2 + c1) % 18446744073709551616)) ?_ ((loop_inr (o := ((x0 + y0 + 0) % 18446744073709551616, (x1 + y1 + c0) % 18446744073709551616, (x2 + y2 + c1) % 18446744073709551616)) rfl).trans ?_)))
    · show (Option.bind (addC x0 y0 0) fun r => _) = _
      rw [a0]; rfl
    · show (Option.bind (addC x1 y1 c0) fun r => _) = _
      rw [a1]; rfl
    · show (Option.bind (addC x2 y2 c1) fun r => _) = _
      rw [a2]; rfl
    · have k1 : (x + y) / 18446744073709551616 = x / 18446744073709551616 + y / 18446744073709551616 + c0 := by omega
      have k2 : (x + y) / 18446744073709551616 / 18446744073709551616 = x / 18446744073709551616 / 18446744073709551616 + y / 18446744073709551616 / 18446744073709551616 + c1 := by rw [k1]; omega
      rw [div2] at hx2 hy2
      rw [div2 (x + y), k2, k1]
      congr 2
      · omega
      · congr 1
        · omega
        · omega
  rw [hl]; rfl

theorem andU (x : Int) (h : 0 ≤ x ∧ x < 18446744073709551616) : andS .u64 x 4294967295 = x % 4294967296 := by
  unfold andS
  rw [wrapU]
  have e1 : (BitVec.ofInt IntKind.u64.bits x &&& BitVec.ofInt IntKind.u64.bits 4294967295).toNat = x.toNat % 4294967296 := by
    rw [BitVec.toNat_and]
    have h1 : (BitVec.ofInt IntKind.u64.bits x).toNat = x.toNat := by
      rw [BitVec.toNat_ofInt]
      have : ((2 ^ IntKind.u64.bits : Nat) : Int) = 18446744073709551616 := by decide
      rw [this]; omega
    have h2 : (BitVec.ofInt IntKind.u64.bits 4294967295).toNat = 2 ^ 32 - 1 := by decide
    rw [h1, h2, Nat.and_two_pow_sub_one_eq_mod]
  rw [e1]; omega
theorem mul_bd {a b m n : Int} (ha : 0 ≤ a ∧ a ≤ m) (hb : 0 ≤ b ∧ b ≤ n) : 0 ≤ a * b ∧ a * b ≤ m * n :=
  ⟨Int.mul_nonneg ha.1 hb.1, Int.mul_le_mul ha.2 hb.2 hb.1 (by omega)⟩
theorem mul64_ok {x y : Int} (hx : 0 ≤ x ∧ x < 18446744073709551616) (hy : 0 ≤ y ∧ y < 18446744073709551616) : math_bits_Mul64_spec x y = some (x * y / 18446744073709551616, x * y % 18446744073709551616) := by
  unfold math_bits_Mul64_spec
  simp only [show (32 : Int) = ((32 : Nat) : Int) from rfl, shrU _ 32 (by omega), Option.bind_some, wrapU, andU x hx, andU y hy]
  simp only [show ((2 : Int) ^ 32) = 4294967296 by decide]
  generalize hx1 : x / 4294967296 = x1
  generalize hx0 : x % 4294967296 = x0
  generalize hy1 : y / 4294967296 = y1
  generalize hy0 : y % 4294967296 = y0
  have e : x * y = (x1 * y1) * 18446744073709551616 + (x1 * y0 + x0 * y1) * 4294967296 + x0 * y0 := by
    have ex : x = x1 * 4294967296 + x0 := by omega
    have ey : y = y1 * 4294967296 + y0 := by omega
    rw [ex, ey]; grind
  have b00 := mul_bd (a := x0) (b := y0) (m := 4294967295) (n := 4294967295) (by omega) (by omega)
  have b10 := mul_bd (a := x1) (b := y0) (m := 4294967295) (n := 4294967295) (by omega) (by omega)
  have b01 := mul_bd (a := x0) (b := y1) (m := 4294967295) (n := 4294967295) (by omega) (by omega)
  have b11 := mul_bd (a := x1) (b := y1) (m := 4294967295) (n := 4294967295) (by omega) (by omega)
  rw [e]
  generalize x0 * y0 = p00 at *
  generalize x1 * y0 = p10 at *
  generalize x0 * y1 = p01 at *
  generalize x1 * y1 = p11 at *
  rw [andU _ (by omega)]
  congr 2
  omega
theorem limb {o a b v : Int} (ho : 0 ≤ o ∧ o < 18446744073709551616) (ha : 0 ≤ a ∧ a < 18446744073709551616) (hb : 0 ≤ b ∧ b < 18446744073709551616) (hv : 0 ≤ v ∧ v < 18446744073709551616) {β : Type} (f : Int → Int → Option β) :
    (Option.bind (math_bits_Mul64_spec a b) fun r12 => Option.bind (some o) fun el18 => Option.bind (addC el18 r12.2 0) fun r20 => Option.bind (addC r20.1 v 0) fun r23 =>
      Option.bind (some o) fun _ => f (IntKind.wrap .u64 ((IntKind.wrap .u64 (r12.1 + r20.2)) + r23.2)) r23.1) = f ((o + a * b + v) / 18446744073709551616) ((o + a * b + v) % 18446744073709551616) := by
  have hab := mul_bd (a := a) (b := b) (m := 18446744073709551615) (n := 18446744073709551615) (by omega) (by omega)
  rw [mul64_ok ha hb]
  generalize a * b = ab at *
  simp only [Option.bind_some]
  rw [addC_ok (by omega) (by omega) (by omega)]
  simp only [Option.bind_some]
  rw [addC_ok (by omega) (by omega) (by omega)]
  simp only [Option.bind_some, wrapU]
  congr 1
  · omega
  · omega
theorem w64k : w64 (0 + 0) = 0 ∧ w64 (0 + 1) = 1 ∧ w64 (1 + 1) = 2 ∧ w64 (2 + 1) = 3 ∧ w64 (0 + 2) = 2 ∧ w64 (0 + 3) = 3 ∧ w64 (1 + 0) = 1 ∧ w64 (1 + 2) = 3 ∧ w64 (2 + 0) = 2 := by decide
section
variable (a y0 y1 y2 v o0 o1 o2 : Int)
theorem ts00 : levitate_wide_times_s0 a ⟨y0, y1, y2⟩ 0 (v, 0, o0, o1, o2) = (Option.bind (math_bits_Mul64_spec a y0) fun r12 => Option.bind (some o0) fun el18 => Option.bind (addC el18 r12.2 0) fun r20 => Option.bind (addC r20.1 v 0) fun r23 =>
      Option.bind (some o0) fun _ => (fun v s => some (Sum.inl (v, 1, s, o1, o2))) (IntKind.wrap .u64 ((IntKind.wrap .u64 (r12.1 + r20.2)) + r23.2)) r23.1) := by
  simp only [levitate_wide_times_s0, w64k]; rfl
theorem ts01 : levitate_wide_times_s0 a ⟨y0, y1, y2⟩ 0 (v, 1, o0, o1, o2) = (Option.bind (math_bits_Mul64_spec a y1) fun r12 => Option.bind (some o1) fun el18 => Option.bind (addC el18 r12.2 0) fun r20 => Option.bind (addC r20.1 v 0) fun r23 =>
      Option.bind (some o1) fun _ => (fun v s => some (Sum.inl (v, 2, o0, s, o2))) (IntKind.wrap .u64 ((IntKind.wrap .u64 (r12.1 + r20.2)) + r23.2)) r23.1) := by
  simp only [levitate_wide_times_s0, w64k]; rfl
theorem ts02 : levitate_wide_times_s0 a ⟨y0, y1, y2⟩ 0 (v, 2, o0, o1, o2) = (Option.bind (math_bits_Mul64_spec a y2) fun r12 => Option.bind (some o2) fun el18 => Option.bind (addC el18 r12.2 0) fun r20 => Option.bind (addC r20.1 v 0) fun r23 =>
      Option.bind (some o2) fun _ => (fun v s => some (Sum.inl (v, 3, o0, o1, s))) (IntKind.wrap .u64 ((IntKind.wrap .u64 (r12.1 + r20.2)) + r23.2)) r23.1) := by
  simp only [levitate_wide_times_s0, w64k]; rfl
theorem ts03 : levitate_wide_times_s0 a ⟨y0, y1, y2⟩ 0 (v, 3, o0, o1, o2) = some (.inr (o0, o1, o2)) := by
  simp only [levitate_wide_times_s0, w64k]; rfl
theorem ts10 : levitate_wide_times_s0 a ⟨y0, y1, y2⟩ 1 (v, 0, o0, o1, o2) = (Option.bind (math_bits_Mul64_spec a y0) fun r12 => Option.bind (some o1) fun el18 => Option.bind (addC el18 r12.2 0) fun r20 => Option.bind (addC r20.1 v 0) fun r23 =>
      Option.bind (some o1) fun _ => (fun v s => some (Sum.inl (v, 1, o0, s, o2))) (IntKind.wrap .u64 ((IntKind.wrap .u64 (r12.1 + r20.2)) + r23.2)) r23.1) := by
  simp only [levitate_wide_times_s0, w64k]; rfl
theorem ts11 : levitate_wide_times_s0 a ⟨y0, y1, y2⟩ 1 (v, 1, o0, o1, o2) = (Option.bind (math_bits_Mul64_spec a y1) fun r12 => Option.bind (some o2) fun el18 => Option.bind (addC el18 r12.2 0) fun r20 => Option.bind (addC r20.1 v 0) fun r23 =>
      Option.bind (some o2) fun _ => (fun v s => some (Sum.inl (v, 2, o0, o1, s))) (IntKind.wrap .u64 ((IntKind.wrap .u64 (r12.1 + r20.2)) + r23.2)) r23.1) := by
  simp only [levitate_wide_times_s0, w64k]; rfl
theorem ts12 : levitate_wide_times_s0 a ⟨y0, y1, y2⟩ 1 (v, 2, o0, o1, o2) = some (.inr (o0, o1, o2)) := by
  simp only [levitate_wide_times_s0, w64k]; rfl
theorem ts20 : levitate_wide_times_s0 a ⟨y0, y1, y2⟩ 2 (v, 0, o0, o1, o2) = (Option.bind (math_bits_Mul64_spec a y0) fun r12 => Option.bind (some o2) fun el18 => Option.bind (addC el18 r12.2 0) fun r20 => Option.bind (addC r20.1 v 0) fun r23 =>
      Option.bind (some o2) fun _ => (fun v s => some (Sum.inl (v, 1, o0, o1, s))) (IntKind.wrap .u64 ((IntKind.wrap .u64 (r12.1 + r20.2)) + r23.2)) r23.1) := by
  simp only [levitate_wide_times_s0, w64k]; rfl
theorem ts21 : levitate_wide_times_s0 a ⟨y0, y1, y2⟩ 2 (v, 1, o0, o1, o2) = some (.inr (o0, o1, o2)) := by
  simp only [levitate_wide_times_s0, w64k]; rfl
end
abbrev TSt := (Int × Int × Int × Int × Int) ⊕ (Int × Int × Int)
theorem times_ok (x y : Int) : levitate_wide_times_spec (wOf x) (wOf y) = some (wOf (x * y)) := by
  unfold levitate_wide_times_spec
  obtain ⟨x0, hx0⟩ : ∃ x0, x % 18446744073709551616 = x0 := ⟨_, rfl⟩
  obtain ⟨x1, hx1⟩ : ∃ x1, x / 18446744073709551616 % 18446744073709551616 = x1 := ⟨_, rfl⟩
  obtain ⟨x2, hx2⟩ : ∃ x2, x / 340282366920938463463374607431768211456 % 18446744073709551616 = x2 := ⟨_, rfl⟩
  obtain ⟨y0, hy0⟩ : ∃ y0, y % 18446744073709551616 = y0 := ⟨_, rfl⟩
  obtain ⟨y1, hy1⟩ : ∃ y1, y / 18446744073709551616 % 18446744073709551616 = y1 := ⟨_, rfl⟩
  obtain ⟨y2, hy2⟩ : ∃ y2, y / 340282366920938463463374607431768211456 % 18446744073709551616 = y2 := ⟨_, rfl⟩
  have ex : wOf x = ⟨x0, x1, x2⟩ := wOf_eq hx0 hx1 hx2
  have ey : wOf y = ⟨y0, y1, y2⟩ := wOf_eq hy0 hy1 hy2
  have bx0 : 0 ≤ x0 ∧ x0 < 18446744073709551616 := by omega
  have bx1 : 0 ≤ x1 ∧ x1 < 18446744073709551616 := by omega
  have bx2 : 0 ≤ x2 ∧ x2 < 18446744073709551616 := by omega
  have by0 : 0 ≤ y0 ∧ y0 < 18446744073709551616 := by omega
  have by1 : 0 ≤ y1 ∧ y1 < 18446744073709551616 := by omega
  have by2 : 0 ≤ y2 ∧ y2 < 18446744073709551616 := by omega
  have Ex : x % 6277101735386680763835789423207666416102355444464034512896 = x0 + x1 * 18446744073709551616 + x2 * 340282366920938463463374607431768211456 := by omega
  have Ey : y % 6277101735386680763835789423207666416102355444464034512896 = y0 + y1 * 18446744073709551616 + y2 * 340282366920938463463374607431768211456 := by omega
  have z0 : (0 : Int) ≤ 0 ∧ (0 : Int) < 18446744073709551616 := by omega
  -- a row of the product
  have h00 := mul_bd (a := x0) (b := y0) (m := 18446744073709551615) (n := 18446744073709551615) (by omega) (by omega)
  have h01 := mul_bd (a := x0) (b := y1) (m := 18446744073709551615) (n := 18446744073709551615) (by omega) (by omega)
  have h02 := mul_bd (a := x0) (b := y2) (m := 18446744073709551615) (n := 18446744073709551615) (by omega) (by omega)
  have h10 := mul_bd (a := x1) (b := y0) (m := 18446744073709551615) (n := 18446744073709551615) (by omega) (by omega)
  have h11 := mul_bd (a := x1) (b := y1) (m := 18446744073709551615) (n := 18446744073709551615) (by omega) (by omega)
  have h20 := mul_bd (a := x2) (b := y0) (m := 18446744073709551615) (n := 18446744073709551615) (by omega) (by omega)
  have r0 : ∀ o0 o1 o2, 0 ≤ o0 ∧ o0 < 18446744073709551616 → 0 ≤ o1 ∧ o1 < 18446744073709551616 → 0 ≤ o2 ∧ o2 < 18446744073709551616 → loop (levitate_wide_times_s0 x0 ⟨y0, y1, y2⟩ 0) (0, 0, o0, o1, o2) =
      some ((o0 + x0 * y0 + 0) % 18446744073709551616, (o1 + x0 * y1 + (o0 + x0 * y0 + 0) / 18446744073709551616) % 18446744073709551616, (o2 + x0 * y2 + (o1 + x0 * y1 + (o0 + x0 * y0 + 0) / 18446744073709551616) / 18446744073709551616) % 18446744073709551616) := by
    intro o0 o1 o2 b0 b1 b2
    refine loop_inl' ((ts00 ..).trans (limb b0 bx0 by0 (v := 0) z0 (fun v s => (some (Sum.inl (v, 1, s, o1, o2)) : Option TSt)))) ?_
    refine loop_inl' ((ts01 ..).trans (limb b1 bx0 by1 (by omega) (fun v s => (some (Sum.inl (v, 2, _, s, o2)) : Option TSt)))) ?_
    refine loop_inl' ((ts02 ..).trans (limb b2 bx0 by2 (by omega) (fun v s => (some (Sum.inl (v, 3, _, _, s)) : Option TSt)))) ?_
    exact loop_inr (ts03 ..)
  have r1 : ∀ o0 o1 o2, 0 ≤ o0 ∧ o0 < 18446744073709551616 → 0 ≤ o1 ∧ o1 < 18446744073709551616 → 0 ≤ o2 ∧ o2 < 18446744073709551616 → loop (levitate_wide_times_s0 x1 ⟨y0, y1, y2⟩ 1) (0, 0, o0, o1, o2) =
      some (o0, (o1 + x1 * y0 + 0) % 18446744073709551616, (o2 + x1 * y1 + (o1 + x1 * y0 + 0) / 18446744073709551616) % 18446744073709551616) := by
    intro o0 o1 o2 b0 b1 b2
    refine loop_inl' ((ts10 ..).trans (limb b1 bx1 by0 (v := 0) z0 (fun v s => (some (Sum.inl (v, 1, o0, s, o2)) : Option TSt)))) ?_
    refine loop_inl' ((ts11 ..).trans (limb b2 bx1 by1 (by omega) (fun v s => (some (Sum.inl (v, 2, o0, _, s)) : Option TSt)))) ?_
    exact loop_inr (ts12 ..)
  have r2 : ∀ o0 o1 o2, 0 ≤ o0 ∧ o0 < 18446744073709551616 → 0 ≤ o1 ∧ o1 < 18446744073709551616 → 0 ≤ o2 ∧ o2 < 18446744073709551616 → loop (levitate_wide_times_s0 x2 ⟨y0, y1, y2⟩ 2) (0, 0, o0, o1, o2) =
      some (o0, o1, (o2 + x2 * y0 + 0) % 18446744073709551616) := by
    intro o0 o1 o2 b0 b1 b2
    refine loop_inl' ((ts20 ..).trans (limb b2 bx2 by0 (v := 0) z0 (fun v s => (some (Sum.inl (v, 1, o0, o1, s)) : Option TSt)))) ?_
    exact loop_inr (ts21 ..)
  rw [ex, ey]
  have hT : wOf (x * y) = wOf (x0 * y0 + (x0 * y1 + x1 * y0) * 18446744073709551616 + (x0 * y2 + x1 * y1 + x2 * y0) * 340282366920938463463374607431768211456) := by
    apply wOf_congr
    rw [Int.mul_emod, Ex, Ey]
    rw [show (x0 + x1 * 18446744073709551616 + x2 * 340282366920938463463374607431768211456) * (y0 + y1 * 18446744073709551616 + y2 * 340282366920938463463374607431768211456) =
      (x0 * y0 + (x0 * y1 + x1 * y0) * 18446744073709551616 + (x0 * y2 + x1 * y1 + x2 * y0) * 340282366920938463463374607431768211456) + 6277101735386680763835789423207666416102355444464034512896 * (x1 * y2 + x2 * y1 + x2 * y2 * 18446744073709551616) by grind]
    rw [Int.add_mul_emod_self_left]
  rw [hT]
  have hl : loop (levitate_wide_times_s1 ⟨x0, x1, x2⟩ ⟨y0, y1, y2⟩) (0, 0, 0, 0) = some ((wOf (x0 * y0 + (x0 * y1 + x1 * y0) * 18446744073709551616 + (x0 * y2 + x1 * y1 + x2 * y0) * 340282366920938463463374607431768211456)).e0, (wOf (x0 * y0 + (x0 * y1 + x1 * y0) * 18446744073709551616 + (x0 * y2 + x1 * y1 + x2 * y0) * 340282366920938463463374607431768211456)).e1, (wOf (x0 * y0 + (x0 * y1 + x1 * y0) * 18446744073709551616 + (x0 * y2 + x1 * y1 + x2 * y0) * 340282366920938463463374607431768211456)).e2) := by
    have z : (0 : Int) ≤ 0 ∧ (0 : Int) < 18446744073709551616 := by omega
    have q0 := r0 0 0 0 z z z
    generalize x0 * y0 = p00 at *
    generalize x0 * y1 = p01 at *
    generalize x0 * y2 = p02 at *
    generalize hc0 : (0 + p00 + 0) % 18446744073709551616 = c0 at q0
    generalize hv0 : (0 + p00 + 0) / 18446744073709551616 = v0 at q0
    generalize hc1 : (0 + p01 + v0) % 18446744073709551616 = c1 at q0
    generalize hv1 : (0 + p01 + v0) / 18446744073709551616 = v1 at q0
    generalize hc2 : (0 + p02 + v1) % 18446744073709551616 = c2 at q0
    have q1 := r1 c0 c1 c2 (by omega) (by omega) (by omega)
    generalize x1 * y0 = p10 at *
    generalize x1 * y1 = p11 at *
    generalize hd1 : (c1 + p10 + 0) % 18446744073709551616 = d1 at q1
    generalize hw1 : (c1 + p10 + 0) / 18446744073709551616 = w1 at q1
    generalize hd2 : (c2 + p11 + w1) % 18446744073709551616 = d2 at q1
    have q2 := r2 c0 d1 d2 (by omega) (by omega) (by omega)
    generalize x2 * y0 = p20 at *
    generalize he2 : (d2 + p20 + 0) % 18446744073709551616 = e2 at q2
    refine loop_inl' (s' := (1, c0, c1, c2)) ?_ (loop_inl' (s' := (2, c0, d1, d2)) ?_ (loop_inl' (s' := (3, c0, d1, e2)) ?_ ((loop_inr (o := (c0, d1, e2)) rfl).trans ?_)))
    · show (Option.bind (loop (levitate_wide_times_s0 x0 ⟨y0, y1, y2⟩ 0) (0, 0, 0, 0, 0)) fun _ => _) = _
      rw [q0]; rfl
    · show (Option.bind (loop (levitate_wide_times_s0 x1 ⟨y0, y1, y2⟩ 1) (0, 0, c0, c1, c2)) fun _ => _) = _
      rw [q1]; rfl
    · show (Option.bind (loop (levitate_wide_times_s0 x2 ⟨y0, y1, y2⟩ 2) (0, 0, c0, d1, d2)) fun _ => _) = _
      rw [q2]; rfl
    · simp only [wOf]
      congr 2
      · omega
      · congr 1
        · omega
        · omega
  rw [hl]; rfl
theorem less_ok (x y : Int) : levitate_wide_less_spec (wOf x) (wOf y) = some (wOf (x - y)) := by
  unfold levitate_wide_less_spec
  rw [wideOf_ok (by decide), Option.bind_some, times_ok, Option.bind_some, plus_ok, Option.bind_some]
  congr 2; omega
end Go.Gw

end
section
set_option maxRecDepth 4096
set_option linter.unusedSimpArgs false
set_option linter.unusedVariables false
namespace Go.Gw
open Go

def nums (l : List Nat) : List Int := l.map fun k : Nat => (k : Int)
theorem nums_len (l : List Nat) : (nums l).length = l.length := by simp [nums]
theorem idx_nums {l : List Nat} {k : Nat} (h : k < l.length) : idx (nums l) (k : Int) = some ((l[k] : Nat) : Int) := by
  rw [idx_nat (by rw [nums_len]; exact h)]; simp [nums]
theorem numbers_ok (n : Nat) (hn : n ≤ 1073741824) : levitate_numbers_spec (n : Int) = some (nums (List.range n)) := by
  unfold levitate_numbers_spec
  have key : ∀ k, k ≤ n → loop (levitate_numbers_s0 (n : Int)) (([] : List Int), 0) = loop (levitate_numbers_s0 (n : Int)) (nums (List.range k), (k : Int)) := by
    intro k
    induction k with
    | zero => intro _; rfl
    | succ k ih =>
      intro hk
      rw [ih (by omega)]
      refine loop_inl ?_
      unfold levitate_numbers_s0
      dsimp only
      rw [lt_nat (by omega), cond_true, app_ok (by simp [nums_len]; omega), Option.bind_some, w64n k (by omega)]
      simp [nums, List.range_succ]
  rw [key n (Nat.le_refl _)]
  have : levitate_numbers_s0 (n : Int) (nums (List.range n), (n : Int)) = some (.inr (nums (List.range n))) := by unfold levitate_numbers_s0; dsimp only; rw [lt_nat_no]; rfl
  rw [loop_inr this]; rfl

def g2 (f : List (List Int)) (i k : Nat) : Int := gi (gr f i) k
structure Sq (n : Nat) (f : List (List Int)) : Prop where
  len : f.length = n
  row : ∀ i, i < n → (gr f i).length = n
def Bd (n : Nat) (f : List (List Int)) (b : Int) : Prop := ∀ i k, i < n → k < n → -b ≤ g2 f i k ∧ g2 f i k ≤ b

/-! ### A loop that maps -/
theorem loop_map {α β : Type} {step : (List β × Int) → Option ((List β × Int) ⊕ List β)} (xs : List α) (g : α → β)
    (hs : ∀ k (hk : k < xs.length) (acc : List β), acc.length = k → step (acc, (k : Int)) = some (.inl (acc ++ [g xs[k]], ((k + 1 : Nat) : Int)))) (he : ∀ acc, step (acc, (xs.length : Int)) = some (.inr acc)) :
    loop step ([], 0) = some (xs.map g) := by
  have key : ∀ k, k ≤ xs.length → loop step ([], 0) = loop step ((xs.take k).map g, (k : Int)) := by
    intro k
    induction k with
    | zero => intro _; rfl
    | succ k ih =>
      intro hk
      rw [ih (by omega)]
      refine (loop_inl (hs k (by omega) _ (by simp; omega))).trans ?_
      have e : (xs.take (k + 1)).map g = (xs.take k).map g ++ [g xs[k]] := by rw [List.take_succ_eq_append_getElem (by omega), List.map_append]; rfl
      rw [e]
  rw [key _ (Nat.le_refl _), List.take_length]
  exact loop_inr (he _)
theorem widened_ok (f : List (List Int)) (hl : f.length ≤ 1000) (hr : ∀ r ∈ f, r.length ≤ 1000 ∧ ∀ x ∈ r, -9223372036854775808 ≤ x ∧ x ≤ 9223372036854775807) : levitate_widened_spec f = some (f.map fun r => r.map wOf) := by
  unfold levitate_widened_spec
  rw [loop_map f (fun r => r.map wOf)]
  · rfl
  · intro k hk acc hacc
    unfold levitate_widened_s1
    dsimp only
    have hm := hr _ (List.getElem_mem hk)
    rw [lt_nat hk, cond_true, idx_nat hk, Option.bind_some]
    rw [loop_map f[k] wOf]
    · rw [Option.bind_some, app_ok (by simp [hacc]; omega), Option.bind_some, w64n k (by omega)]
    · intro j hj acc2 hacc2
      unfold levitate_widened_s0
      dsimp only
      rw [lt_nat hj, cond_true, idx_nat hj, Option.bind_some, wideOf_ok (hm.2 _ (List.getElem_mem hj)), Option.bind_some, app_ok (by simp [hacc2]; omega), Option.bind_some, w64n j (by omega)]
    · intro acc2
      unfold levitate_widened_s0
      dsimp only
      rw [lt_nat_no]; rfl
  · intro acc
    unfold levitate_widened_s1
    dsimp only
    rw [lt_nat_no]; rfl

/-! ### Minors -/
def wd (f : List (List Int)) : List (List Arr3_U64) := f.map fun r => r.map wOf
def detL (f : List (List Int)) : List Nat → Int
  | [] => 1
  | [a] => g2 f a a
  | [a, b] => g2 f a a * g2 f b b - g2 f a b * g2 f b a
  | [a, b, c] => g2 f a a * (g2 f b b * g2 f c c - g2 f b c * g2 f c b) + g2 f a b * (g2 f b c * g2 f c a - g2 f b a * g2 f c c) + g2 f a c * (g2 f b a * g2 f c b - g2 f b b * g2 f c a)
  | _ => 0
theorem ent_ok {n : Nat} {f : List (List Int)} (h : Sq n f) {l : List Nat} (hl : ∀ x ∈ l, x < n) {i k : Nat} (hi : i < l.length) (hk : k < l.length) :
    levitate_minor_1_spec (i : Int) (k : Int) (wd f) (nums l) = some (wOf (g2 f l[i] l[k])) := by
  unfold levitate_minor_1_spec
  have h1 := hl _ (List.getElem_mem hi)
  have h2 := hl _ (List.getElem_mem hk)
  have h3 : l[i] < f.length := by rw [h.len]; exact h1
  rw [idx_nums hi, Option.bind_some]
  have e1 : idx (wd f) ((l[i] : Nat) : Int) = some ((gr f l[i]).map wOf) := by
    rw [idx_nat (by simp [wd]; exact h3)]
    simp only [wd, List.getElem_map]; rw [gr_eq h3]
  rw [e1, Option.bind_some, idx_nums hk, Option.bind_some]
  have h4 : l[k] < (gr f l[i]).length := by rw [h.row _ h1]; exact h2
  rw [idx_nat (by simpa using h4), Option.bind_some, List.getElem_map, gi_eq h4]; rfl
theorem minor_ok {n : Nat} {f : List (List Int)} (h : Sq n f) {l : List Nat} (hl : ∀ x ∈ l, x < n) (h3 : l.length ≤ 3) : levitate_minor_spec (wd f) (nums l) = some (wOf (detL f l)) := by
  unfold levitate_minor_spec
  have E := fun i k (hi : i < l.length) (hk : k < l.length) => ent_ok h hl hi hk
  match l, h3, E with
  | [], _, _ => simp only [nums, List.map_nil, List.length_nil]; rw [show decide (((0 : Nat) : Int) = 0) = true from rfl, cond_true, wideOf_ok (by decide)]; rfl
  | [a], _, E =>
    have E00 := E 0 0 (by simp) (by simp)
    rw [show decide (((nums [a]).length : Int) = 0) = false from rfl, cond_false, show decide (((nums [a]).length : Int) = 1) = true from rfl, cond_true]
    change Option.bind (levitate_minor_1_spec ((0 : Nat) : Int) ((0 : Nat) : Int) _ _) _ = _
    rw [E00]; rfl
  | [a, b], _, E =>
    have E00 := E 0 0 (by simp) (by simp)
    have E01 := E 0 1 (by simp) (by simp)
    have E10 := E 1 0 (by simp) (by simp)
    have E11 := E 1 1 (by simp) (by simp)
    rw [show decide (((nums [a, b]).length : Int) = 0) = false from rfl, cond_false, show decide (((nums [a, b]).length : Int) = 1) = false from rfl, cond_false, show decide (((nums [a, b]).length : Int) = 2) = true from rfl, cond_true]
    simp only [List.getElem_cons_zero, List.getElem_cons_succ] at E00 E01 E10 E11
    change levitate_minor_1_spec 0 0 (wd f) (nums [a, b]) = _ at E00
    change levitate_minor_1_spec 0 1 (wd f) (nums [a, b]) = _ at E01
    change levitate_minor_1_spec 1 0 (wd f) (nums [a, b]) = _ at E10
    change levitate_minor_1_spec 1 1 (wd f) (nums [a, b]) = _ at E11
    rw [E00, E01, E10, E11]
    simp only [Option.bind_some, times_ok, less_ok]
    rfl
  | [a, b, c], _, E =>
    have E00 : levitate_minor_1_spec 0 0 (wd f) (nums [a, b, c]) = _ := E 0 0 (by simp) (by simp)
    have E01 : levitate_minor_1_spec 0 1 (wd f) (nums [a, b, c]) = _ := E 0 1 (by simp) (by simp)
    have E02 : levitate_minor_1_spec 0 2 (wd f) (nums [a, b, c]) = _ := E 0 2 (by simp) (by simp)
    have E10 : levitate_minor_1_spec 1 0 (wd f) (nums [a, b, c]) = _ := E 1 0 (by simp) (by simp)
    have E11 : levitate_minor_1_spec 1 1 (wd f) (nums [a, b, c]) = _ := E 1 1 (by simp) (by simp)
    have E12 : levitate_minor_1_spec 1 2 (wd f) (nums [a, b, c]) = _ := E 1 2 (by simp) (by simp)
    have E20 : levitate_minor_1_spec 2 0 (wd f) (nums [a, b, c]) = _ := E 2 0 (by simp) (by simp)
    have E21 : levitate_minor_1_spec 2 1 (wd f) (nums [a, b, c]) = _ := E 2 1 (by simp) (by simp)
    have E22 : levitate_minor_1_spec 2 2 (wd f) (nums [a, b, c]) = _ := E 2 2 (by simp) (by simp)
    simp only [List.getElem_cons_zero, List.getElem_cons_succ] at E00 E01 E02 E10 E11 E12 E20 E21 E22
    rw [show decide (((nums [a, b, c]).length : Int) = 0) = false from rfl, cond_false, show decide (((nums [a, b, c]).length : Int) = 1) = false from rfl, cond_false, show decide (((nums [a, b, c]).length : Int) = 2) = false from rfl, cond_false,
      wideOf_ok (by decide), Option.bind_some]
    have w1 : ∀ x, Arr3_U64.mk (wOf x).e0 (wOf x).e1 (wOf x).e2 = wOf x := fun x => rfl
    have t : (Int.tmod (w64 (0 + 1)) 3 = 1 ∧ Int.tmod (w64 (0 + 2)) 3 = 2) ∧ (Int.tmod (w64 (1 + 1)) 3 = 2 ∧ Int.tmod (w64 (1 + 2)) 3 = 0) ∧ (Int.tmod (w64 (2 + 1)) 3 = 0 ∧ Int.tmod (w64 (2 + 2)) 3 = 1) := by decide
    have s0 : levitate_minor_s0 (wd f) (nums [a, b, c]) (0, (wOf 0).e0, (wOf 0).e1, (wOf 0).e2) = some (.inl (1, (wOf (0 + g2 f a a * (g2 f b b * g2 f c c - g2 f b c * g2 f c b))).e0, (wOf (0 + g2 f a a * (g2 f b b * g2 f c c - g2 f b c * g2 f c b))).e1, (wOf (0 + g2 f a a * (g2 f b b * g2 f c c - g2 f b c * g2 f c b))).e2)) := by
      simp only [levitate_minor_s0, show decide ((0 : Int) < 3) = true from rfl, cond_true, t, E00, E11, E22, E12, E21, Option.bind_some, times_ok, less_ok, w1, plus_ok]; rfl
    have s1 : ∀ x, levitate_minor_s0 (wd f) (nums [a, b, c]) (1, (wOf x).e0, (wOf x).e1, (wOf x).e2) = some (.inl (2, (wOf (x + g2 f a b * (g2 f b c * g2 f c a - g2 f b a * g2 f c c))).e0, (wOf (x + g2 f a b * (g2 f b c * g2 f c a - g2 f b a * g2 f c c))).e1, (wOf (x + g2 f a b * (g2 f b c * g2 f c a - g2 f b a * g2 f c c))).e2)) := by
      intro x
      simp only [levitate_minor_s0, show decide ((1 : Int) < 3) = true from rfl, cond_true, t, E01, E12, E20, E10, E22, Option.bind_some, times_ok, less_ok, w1, plus_ok]; rfl
    have s2 : ∀ x, levitate_minor_s0 (wd f) (nums [a, b, c]) (2, (wOf x).e0, (wOf x).e1, (wOf x).e2) = some (.inl (3, (wOf (x + g2 f a c * (g2 f b a * g2 f c b - g2 f b b * g2 f c a))).e0, (wOf (x + g2 f a c * (g2 f b a * g2 f c b - g2 f b b * g2 f c a))).e1, (wOf (x + g2 f a c * (g2 f b a * g2 f c b - g2 f b b * g2 f c a))).e2)) := by
      intro x
      simp only [levitate_minor_s0, show decide ((2 : Int) < 3) = true from rfl, cond_true, t, E02, E10, E21, E11, E20, Option.bind_some, times_ok, less_ok, w1, plus_ok]; rfl
    have s3 : ∀ x, levitate_minor_s0 (wd f) (nums [a, b, c]) (3, (wOf x).e0, (wOf x).e1, (wOf x).e2) = some (.inr ((wOf x).e0, (wOf x).e1, (wOf x).e2)) := fun x => rfl
    rw [loop_inl s0, loop_inl (s1 _), loop_inl (s2 _), loop_inr (s3 _)]
    simp only [Option.bind_some, w1, detL]
    congr 2; omega

/-! ### Which forms are right -/
def frow (f : List (List Int)) (i : Nat) (row : List Int) : Option Int := fs (fun k x => if smallB 10000 x then (if g2 f k i = x then none else some 3) else some 2) 0 row
def badRow (f : List (List Int)) (r : List Int) : Bool := !decide (r.length = f.length)
def frmE (f : List (List Int)) : Int :=
  if f.length = 0 then 10 else if 3 < f.length then 8 else if f.any (badRow f) then 10 else
    match fs (frow f) 0 f with | some e => e | none => 0
theorem sq_of {f : List (List Int)} (h : f.any (badRow f) = false) : Sq f.length f :=
  ⟨rfl, fun i hi => by rw [List.any_eq_false] at h; have := h _ (gr_mem hi); simpa [badRow] using this⟩
theorem lformErr_ok (f : List (List Int)) (hl : f.length < 1073741824) : levitate_formErr_spec f = some (frmE f) := by
  unfold levitate_formErr_spec
  simp only [lunless_ok, Option.bind_some, first2]
  have hc : slices_ContainsFunc_int_121_spec f f = some (f.any (badRow f)) := by
    unfold slices_ContainsFunc_int_121_spec slices_IndexFunc_int_121_spec
    rw [loop_fs f (fun k r => if badRow f r then some (k : Int) else none)]
    · rw [Option.bind_some, jn_ix (badRow f), Option.bind_some, ix_ge]
    · intro k hk
      unfold slices_IndexFunc_int_121_s0
      rw [lt_nat hk, idx_nat hk]
      simp only [cond_true, Option.bind_some, levitate_formErr_1_spec, len_dec]
      exact ix_step (w64n k (by omega))
    · unfold slices_IndexFunc_int_121_s0
      rw [lt_nat_no]; rfl
  have e1 : (decide ((0 : Int) < (f.length : Int))) = !decide (f.length = 0) := by rw [Bool.eq_iff_iff, Bool.not_eq_true', decide_eq_true_iff, decide_eq_false_iff_not]; omega
  have e2 : (decide ((f.length : Int) ≤ 3)) = !decide (3 < f.length) := by rw [Bool.eq_iff_iff, Bool.not_eq_true', decide_eq_true_iff, decide_eq_false_iff_not]; omega
  rw [e1, e2, hc]
  unfold frmE
  by_cases h1 : f.length = 0
  · simp [h1]
  · by_cases h2 : 3 < f.length
    · simp [h1, h2]
    · cases h3 : f.any (badRow f) with
      | true => simp [h1, h2]
      | false =>
        have hq := sq_of h3
        have hloop : loop (levitate_formErr_s1 f) 0 = some (oi (fs (frow f) 0 f)) := by
          refine loop_fs f _ (fun i hi => ?_) ?_
          · unfold levitate_formErr_s1
            rw [lt_nat hi, cond_true, idx_nat hi, Option.bind_some]
            have hri : f[i].length = f.length := by rw [gr_eq hi]; exact hq.row i hi
            have hin : loop (levitate_formErr_s0 f[i] f (i : Int)) 0 = some (oi ((frow f i f[i]).map fun r => (.inr (.inl r) : Int ⊕ (Int ⊕ Unit)))) := by
              rw [loop_fs f[i] (fun k x => (if smallB 10000 x then (if g2 f k i = x then none else some (3 : Int)) else some 2).map fun r => (.inr (.inl r) : Int ⊕ (Int ⊕ Unit)))]
              · rw [map_fs (fun r => (.inr (.inl r) : Int ⊕ (Int ⊕ Unit)))]; rfl
              · intro k hk
                have hkf : k < f.length := by omega
                have hki : i < (gr f k).length := by rw [hq.row k hkf]; exact hi
                unfold levitate_formErr_s0
                rw [lt_nat hk, cond_true, idx_nat hk, Option.bind_some, idx_gr hkf, Option.bind_some, idx_gi hki, Option.bind_some]
                simp only [lsmall_ok _ _ (show (0 : Int) ≤ 10000 ∧ (10000 : Int) ≤ 4611686018427387904 by decide), Option.bind_some, lunless_ok, first2]
                rw [w64n k (by omega)]
                show _ = fsS (Option.map _ (if smallB 10000 f[i][k] then (if g2 f k i = f[i][k] then none else some 3) else some 2)) k
                unfold g2
                cases smallB 10000 f[i][k] <;> by_cases h5 : gi (gr f k) i = f[i][k] <;> simp [h5, fsS]
              · unfold levitate_formErr_s0
                rw [lt_nat_no]; rfl
            rw [hin, Option.bind_some, w64n i (by omega)]
            cases frow f i f[i] <;> rfl
          · unfold levitate_formErr_s1
            rw [lt_nat_no]; rfl
        simp only [h1, h2, hloop, decide_false, Bool.not_false, cond_true, if_true, if_false, decide_true, Bool.not_true, cond_false, Option.bind_some, Bool.false_eq_true]
        cases fs (frow f) 0 f <;> rfl
structure Rf (f : List (List Int)) : Prop where
  n1 : 1 ≤ f.length
  n3 : f.length ≤ 3
  sq : Sq f.length f
  bd : Bd f.length f 10000
  sym : ∀ i k, i < f.length → k < f.length → g2 f k i = g2 f i k
theorem frmE_right {f : List (List Int)} : frmE f = 0 ↔ Rf f := by
  constructor
  · intro h
    unfold frmE at h
    by_cases h1 : f.length = 0
    · simp [h1] at h
    · by_cases h2 : 3 < f.length
      · simp [h1, h2] at h
      · cases h3 : f.any (badRow f) with
        | true => simp [h1, h2, h3] at h
        | false =>
          have hq := sq_of h3
          simp only [h1, h2, h3, if_false, Bool.false_eq_true] at h
          cases h4 : fs (frow f) 0 f with
          | some e =>
            simp only [h4] at h
            obtain ⟨i, hi, h5⟩ := fs_mem h4
            obtain ⟨k, hk, h6⟩ := fs_mem h5
            subst h
            split at h6
            · split at h6 <;> simp at h6
            · simp at h6
          | none =>
            rw [fs_none] at h4
            have key : ∀ i k, i < f.length → k < f.length → smallB 10000 (g2 f i k) = true ∧ g2 f k i = g2 f i k := by
              intro i k hi hk
              have h5 := h4 i hi
              unfold frow at h5
              rw [fs_none] at h5
              have hr : f[i].length = f.length := by rw [gr_eq hi]; exact hq.row i hi
              have h6 := h5 k (by omega)
              have e : f[i][k] = g2 f i k := by unfold g2; rw [gi_eq (by omega)]; congr 1; exact gr_eq hi
              simp only [Nat.zero_add, e] at h6
              split at h6
              · rename_i hs
                split at h6
                · rename_i hy; exact ⟨hs, hy⟩
                · cases h6
              · cases h6
            exact ⟨by omega, by omega, hq, fun i k hi hk => (small_iff _ _).1 (key i k hi hk).1, fun i k hi hk => (key i k hi hk).2⟩
  · intro h
    have h3 : f.any (badRow f) = false := by
      rw [List.any_eq_false]
      intro r hr
      obtain ⟨i, hi, rfl⟩ := List.getElem_of_mem hr
      have := h.sq.row i hi
      rw [← gr_eq hi] at this
      simp [badRow, this]
    have h4 : fs (frow f) 0 f = none := by
      rw [fs_none]
      intro i hi
      unfold frow
      rw [fs_none]
      intro k hk
      have hr : f[i].length = f.length := by rw [gr_eq hi]; exact h.sq.row i hi
      have hk' : k < f.length := by omega
      have e : f[i][k] = g2 f i k := by unfold g2; rw [gi_eq (by omega)]; congr 1; exact gr_eq hi
      simp only [Nat.zero_add, e]
      rw [if_pos ((small_iff _ _).2 (h.bd i k hi hk')), if_pos (h.sym i k hi hk')]
    unfold frmE
    rw [if_neg (by have := h.n1; omega), if_neg (by have := h.n3; omega), h3, h4]; rfl
end Go.Gw

end
section
set_option maxRecDepth 4096
set_option linter.unusedSimpArgs false
set_option linter.unusedVariables false
namespace Go.Gw
open Go

theorem w64_per (x q : Int) : w64 (x + 18446744073709551616 * q) = w64 x := by simp only [w64_eq]; omega
theorem w64_ex (x : Int) : ∃ q, w64 x = x + 18446744073709551616 * q := ⟨(w64 x - x) / 18446744073709551616, by simp only [w64_eq]; omega⟩
theorem w64_mul (a b : Int) : w64 (w64 a * b) = w64 (a * b) := by
  obtain ⟨q, hq⟩ := w64_ex a
  rw [hq, Int.add_mul, Int.mul_assoc, w64_per]
theorem w64_mul' (a b : Int) : w64 (a * w64 b) = w64 (a * b) := by rw [Int.mul_comm, w64_mul, Int.mul_comm]
theorem loop_list {β : Type} {step : (List β × Int) → Option ((List β × Int) ⊕ List β)} (n : Nat) (g : Nat → β)
    (hs : ∀ k, k < n → ∀ acc : List β, acc.length = k → step (acc, (k : Int)) = some (.inl (acc ++ [g k], ((k + 1 : Nat) : Int)))) (he : ∀ acc, step (acc, (n : Int)) = some (.inr acc)) :
    loop step ([], 0) = some ((List.range n).map g) := by
  have key : ∀ k, k ≤ n → loop step ([], 0) = loop step ((List.range k).map g, (k : Int)) := by
    intro k
    induction k with
    | zero => intro _; rfl
    | succ k ih =>
      intro hk
      rw [ih (by omega)]
      refine (loop_inl (hs k (by omega) _ (by simp))).trans ?_
      have e : (List.range (k + 1)).map g = (List.range k).map g ++ [g k] := by rw [List.range_succ, List.map_append]; rfl
      rw [e]
  rw [key _ (Nat.le_refl _)]
  exact loop_inr (he _)
def tab (n : Nat) (g : Nat → Int) : List Int := (List.range n).map g
theorem tab_len (n : Nat) (g : Nat → Int) : (tab n g).length = n := by simp [tab]
theorem gi_tab {n : Nat} {g : Nat → Int} {k : Nat} (h : k < n) : gi (tab n g) k = g k := by rw [← gi_eq (by rw [tab_len]; exact h)]; simp [tab]
def tab2 (n : Nat) (g : Nat → Nat → Int) : List (List Int) := (List.range n).map fun i => tab n (g i)
theorem tab2_len (n : Nat) (g : Nat → Nat → Int) : (tab2 n g).length = n := by simp [tab2]
theorem gr_tab2 {n : Nat} {g : Nat → Nat → Int} {i : Nat} (h : i < n) : gr (tab2 n g) i = tab n (g i) := by rw [← gr_eq (by rw [tab2_len]; exact h)]; simp [tab2]
theorem g2_tab2 {n : Nat} {g : Nat → Nat → Int} {i k : Nat} (hi : i < n) (hk : k < n) : g2 (tab2 n g) i k = g i k := by unfold g2; rw [gr_tab2 hi, gi_tab hk]
theorem sq_tab2 (n : Nat) (g : Nat → Nat → Int) : Sq n (tab2 n g) := ⟨tab2_len n g, fun i hi => by rw [gr_tab2 hi, tab_len]⟩

/-! ### Values -/
theorem dot_ok {a b : List Int} (h : a.length ≤ b.length) (hl : a.length < 1073741824) : levitate_dot_spec a b = some (w64 (sumN (fun k => gi a k * gi b k) a.length)) := by
  unfold levitate_dot_spec
  rw [loop_sum a.length (fun k => gi a k * gi b k)]
  · rfl
  · intro k hk acc
    unfold levitate_dot_s0
    dsimp only
    rw [lt_nat hk, cond_true, idx_gi hk, Option.bind_some, idx_gi (by omega), Option.bind_some, w64_add', w64n k (by omega)]
  · intro acc
    unfold levitate_dot_s0
    dsimp only
    rw [lt_nat_no]; rfl
def valI (n : Nat) (f : List (List Int)) (x : List Int) : Int := sumN (fun i => gi x i * sumN (fun k => g2 f i k * gi x k) n) n
theorem value_ok {n : Nat} {f : List (List Int)} (h : Sq n f) {x : List Int} (hx : x.length = n) (hn : n < 1073741824) : levitate_value_spec f x = some (w64 (valI n f x)) := by
  unfold levitate_value_spec
  rw [loop_sum n (fun i => gi x i * sumN (fun k => g2 f i k * gi x k) n)]
  · rfl
  · intro k hk acc
    unfold levitate_value_s0
    dsimp only
    have hr := h.row k hk
    rw [h.len, lt_nat hk, cond_true, idx_gr (by rw [h.len]; exact hk), Option.bind_some, idx_gi (by omega), Option.bind_some, dot_ok (by omega) (by omega), Option.bind_some, w64_add', w64n k (by omega), hr]
    congr 3
    rw [← w64_add', w64_mul', w64_add']; rfl
  · intro acc
    unfold levitate_value_s0
    dsimp only
    rw [h.len, lt_nat_no]; rfl

/-! ### The worst disturbance -/
theorem andI1 {q : Int} (h : 0 ≤ q ∧ q < 4611686018427387904) : andS .i64 q 1 = q % 2 := by
  unfold andS
  have e1 : (BitVec.ofInt IntKind.i64.bits q &&& BitVec.ofInt IntKind.i64.bits 1).toNat = q.toNat % 2 := by
    rw [BitVec.toNat_and]
    have h1 : (BitVec.ofInt IntKind.i64.bits q).toNat = q.toNat := by
      rw [BitVec.toNat_ofInt]
      have : ((2 ^ IntKind.i64.bits : Nat) : Int) = 18446744073709551616 := by decide
      rw [this]; omega
    have h2 : (BitVec.ofInt IntKind.i64.bits 1).toNat = 1 := by decide
    rw [h1, h2, Nat.and_one_is_mod]
  rw [e1]
  show w64 _ = _
  rw [w64_id (by omega)]; omega
def sgn (s i : Nat) : Int := 1 - 2 * ((s / 2 ^ i % 2 : Nat) : Int)
def xv (p : LevitatePlant) (s : Nat) : List Int := tab p.Noise.length fun i => (gi p.Noise i + 1) * sgn s i
def wst (v : Nat → Int) : Nat → Int
  | 0 => 0
  | s + 1 => if s = 0 ∨ wst v s < v s then v s else wst v s
theorem wst_max (v : Nat → Int) : ∀ N, 1 ≤ N → (∃ s, s < N ∧ wst v N = v s) ∧ ∀ s, s < N → v s ≤ wst v N
  | 0, h => by omega
  | N + 1, _ => by
    simp only [wst]
    by_cases h0 : N = 0
    · subst h0
      refine ⟨⟨0, by omega, by simp⟩, fun s hs => ?_⟩
      have : s = 0 := by omega
      subst this; simp
    · obtain ⟨⟨s, hs, he⟩, hm⟩ := wst_max v N (by omega)
      by_cases h1 : wst v N < v N
      · rw [if_pos (.inr h1)]
        refine ⟨⟨N, by omega, rfl⟩, fun t ht => ?_⟩
        by_cases htn : t = N
        · subst htn; omega
        · have := hm t (by omega); omega
      · rw [if_neg (by simp [h0, h1])]
        refine ⟨⟨s, by omega, he⟩, fun t ht => ?_⟩
        by_cases htn : t = N
        · subst htn; omega
        · exact hm t (by omega)
def worstI (p : LevitatePlant) (f : List (List Int)) : Int := wst (fun s => valI p.Noise.length f (xv p s)) (2 ^ p.Noise.length)
theorem abs_mul {a b A B : Int} (ha : -A ≤ a ∧ a ≤ A) (hb : -B ≤ b ∧ b ≤ B) : -(A * B) ≤ a * b ∧ a * b ≤ A * B := by
  have hA : 0 ≤ A := by omega
  have hB : 0 ≤ B := by omega
  have h1 : (a * b).natAbs ≤ A.toNat * B.toNat := by rw [Int.natAbs_mul]; exact Nat.mul_le_mul (by omega) (by omega)
  have h2 : ((A.toNat * B.toNat : Nat) : Int) = A * B := by rw [Int.natCast_mul]; congr 1 <;> omega
  omega
theorem sumN_abs {t : Nat → Int} {B : Int} : ∀ {n : Nat}, (∀ k, k < n → -B ≤ t k ∧ t k ≤ B) → -(n * B) ≤ sumN t n ∧ sumN t n ≤ n * B
  | 0, _ => by simp [sumN]
  | n + 1, h => by
    simp only [sumN]
    have h1 := sumN_abs (n := n) (fun k hk => h k (by omega)); have h2 := h n (by omega)
    have : ((n + 1 : Nat) : Int) * B = n * B + B := by rw [Int.natCast_add, Int.add_mul]; simp
    omega
theorem sumN_abs3 {t : Nat → Int} {B : Int} {n : Nat} (hn : n ≤ 3) (hB : 0 ≤ B) (h : ∀ k, k < n → -B ≤ t k ∧ t k ≤ B) : -(3 * B) ≤ sumN t n ∧ sumN t n ≤ 3 * B := by
  have h1 := sumN_abs h
  have h2 : (n : Int) * B ≤ 3 * B := Int.mul_le_mul_of_nonneg_right (by omega) hB
  omega
theorem valI_b {n : Nat} {f : List (List Int)} (hn : n ≤ 3) (hf : Bd n f 10000) {x : List Int} {X : Int} (hX : 0 ≤ X) (hx : ∀ k, k < n → -X ≤ gi x k ∧ gi x k ≤ X) : -(3 * (X * (3 * (10000 * X)))) ≤ valI n f x ∧ valI n f x ≤ 3 * (X * (3 * (10000 * X))) := by
  have h1 : 0 ≤ 10000 * X := by omega
  refine sumN_abs3 hn (Int.mul_nonneg hX (by omega)) fun i hi => abs_mul (hx i hi) (sumN_abs3 hn h1 fun k hk => abs_mul (hf i k hi hk) (hx k hk))
theorem sgn_pm (s i : Nat) : sgn s i = 1 ∨ sgn s i = -1 := by unfold sgn; omega
theorem xv_b {p : LevitatePlant} (h : Rp p) (s : Nat) {k : Nat} (hk : k < p.Noise.length) : -10001 ≤ gi (xv p s) k ∧ gi (xv p s) k ≤ 10001 := by
  unfold xv
  rw [gi_tab hk]
  have := h.noise_b hk
  rcases sgn_pm s k with h1 | h1 <;> rw [h1] <;> omega
theorem xv_ok {p : LevitatePlant} (h : Rp p) {s : Nat} (hs : s < 8) : loop (levitate_plant_worst_s0 ⟨p⟩ (s : Int)) ([], 0) = some (xv p s) := by
  refine loop_list p.Noise.length _ (fun k hk acc hacc => ?_) (fun acc => ?_)
  · unfold levitate_plant_worst_s0
    dsimp only
    have hb := h.noise_b hk
    have hk3 : k < 3 := by have := h.n3; omega
    rw [lt_nat hk, cond_true, idx_gi hk, Option.bind_some, shrI _ k (by omega), Option.bind_some]
    have e : (s : Int) / 2 ^ k = ((s / 2 ^ k : Nat) : Int) := by rw [Int.natCast_ediv, Int.natCast_pow]; rfl
    have hle : s / 2 ^ k ≤ s := Nat.div_le_self _ _
    have e3 : sgn s k = 1 - 2 * ((s / 2 ^ k % 2 : Nat) : Int) := rfl
    rw [e, e3]
    generalize s / 2 ^ k = Q at *
    rw [andI1 (by omega), app_ok (by simp [hacc]; omega), Option.bind_some, w64n k (by omega)]
    have e2 : w64 (w64 (gi p.Noise k + 1) * w64 (1 - w64 (2 * ((Q : Int) % 2)))) = (gi p.Noise k + 1) * (1 - 2 * ((Q % 2 : Nat) : Int)) := by
      rw [w64_id (x := gi p.Noise k + 1) (by omega), w64_id (x := 2 * _) (by omega), w64_id (x := 1 - _) (by omega)]
      have e4 : 1 - 2 * ((Q : Int) % 2) = 1 - 2 * ((Q % 2 : Nat) : Int) := by omega
      rw [e4]
      have h1 : 1 - 2 * ((Q % 2 : Nat) : Int) = 1 ∨ 1 - 2 * ((Q % 2 : Nat) : Int) = -1 := by omega
      rcases h1 with h1 | h1 <;> rw [h1] <;> rw [w64_id (by omega)]
    rw [e2]
  · unfold levitate_plant_worst_s0
    dsimp only
    rw [lt_nat_no]; rfl
theorem pow_le8 {n : Nat} (h : n ≤ 3) : 2 ^ n ≤ 8 := by
  have : 2 ^ n ≤ 2 ^ 3 := Nat.pow_le_pow_right (by decide) h
  omega
theorem shl1 {n : Nat} (h : n ≤ 3) : shlS .i64 1 (n : Int) = some ((2 ^ n : Nat) : Int) := by
  match n, h with
  | 0, _ => rfl
  | 1, _ => rfl
  | 2, _ => rfl
  | 3, _ => rfl
theorem worst_ok {p : LevitatePlant} (h : Rp p) {f : List (List Int)} (hf : Sq p.Noise.length f) (hb : Bd p.Noise.length f 10000) : levitate_plant_worst_spec ⟨p⟩ f = some (worstI p f) := by
  unfold levitate_plant_worst_spec
  have h3 := h.n3
  have h8 := pow_le8 h3
  rw [hf.len, shl1 h3, Option.bind_some]
  have vb : ∀ s, -(3 * (10001 * (3 * (10000 * 10001)))) ≤ valI p.Noise.length f (xv p s) ∧ valI p.Noise.length f (xv p s) ≤ 3 * (10001 * (3 * (10000 * 10001))) := fun s => valI_b h3 hb (by decide) (fun k hk => xv_b h s hk)
  have key : ∀ s, s ≤ 2 ^ p.Noise.length → loop (levitate_plant_worst_s1 f ⟨p⟩ ((2 ^ p.Noise.length : Nat) : Int)) (0, 0) = loop (levitate_plant_worst_s1 f ⟨p⟩ ((2 ^ p.Noise.length : Nat) : Int)) (wst (fun s => valI p.Noise.length f (xv p s)) s, (s : Int)) := by
    intro s
    induction s with
    | zero => intro _; rfl
    | succ s ih =>
      intro hs
      rw [ih (by omega)]
      refine loop_inl ?_
      unfold levitate_plant_worst_s1
      dsimp only
      rw [lt_nat (by omega), cond_true, xv_ok h (by omega), Option.bind_some, value_ok hf (by unfold xv; rw [tab_len]) (by omega), Option.bind_some, w64n s (by omega)]
      have := vb s
      rw [w64_id (by omega)]
      have e0 : decide ((s : Int) = 0) = decide (s = 0) := len_dec _ 0
      rw [e0]
      simp only [wst]
      by_cases h1 : s = 0
      · simp [h1]
      · by_cases h2 : wst (fun s => valI p.Noise.length f (xv p s)) s < valI p.Noise.length f (xv p s)
        · simp [h1, h2]
        · simp [h1, h2]
  rw [key _ (Nat.le_refl _)]
  have : levitate_plant_worst_s1 f ⟨p⟩ ((2 ^ p.Noise.length : Nat) : Int) (wst (fun s => valI p.Noise.length f (xv p s)) (2 ^ p.Noise.length), ((2 ^ p.Noise.length : Nat) : Int)) = some (.inr (wst (fun s => valI p.Noise.length f (xv p s)) (2 ^ p.Noise.length))) := by
    unfold levitate_plant_worst_s1
    dsimp only
    rw [lt_nat_no]; rfl
  rw [loop_inr this]; rfl
theorem worst_b {p : LevitatePlant} (h : Rp p) {f : List (List Int)} (hb : Bd p.Noise.length f 10000) : -9002000000000000 ≤ worstI p f ∧ worstI p f ≤ 9002000000000000 := by
  obtain ⟨⟨s, _, he⟩, _⟩ := wst_max (fun s => valI p.Noise.length f (xv p s)) (2 ^ p.Noise.length) (Nat.one_le_two_pow)
  unfold worstI
  rw [he]
  have := valI_b h.n3 hb (X := 10001) (by decide) (fun k hk => xv_b h s hk)
  omega

/-! ### Signs of minors -/
theorem below_int {x : Int} (h : -3138550867693340381917894711603833208051177722232017256448 ≤ x ∧ x < 3138550867693340381917894711603833208051177722232017256448) : levitate_wide_below_spec (wOf x) = some (decide (x < 0)) := by
  rw [below_ok]; congr 1; rw [decide_eq_decide]; omega
theorem wOf_zero {x : Int} (h : -3138550867693340381917894711603833208051177722232017256448 ≤ x ∧ x < 3138550867693340381917894711603833208051177722232017256448) : wOf x = wOf 0 ↔ x = 0 := by
  constructor
  · intro e; have := wOf_inj e; omega
  · rintro rfl; rfl
theorem det_b {n : Nat} {f : List (List Int)} (hb : Bd n f 200000000000000) {l : List Nat} (hl : ∀ x ∈ l, x < n) : -50000000000000000000000000000000000000000000 ≤ detL f l ∧ detL f l ≤ 50000000000000000000000000000000000000000000 := by
  match l, hl with
  | [], _ => simp [detL]
  | [a], hl => have := hb a a (hl a (by simp)) (hl a (by simp)); simp only [detL]; omega
  | [a, b], hl =>
    have ha := hl a (by simp); have hb' := hl b (by simp)
    have h1 := abs_mul (hb a a ha ha) (hb b b hb' hb')
    have h2 := abs_mul (hb a b ha hb') (hb b a hb' ha)
    simp only [detL]; omega
  | [a, b, c], hl =>
    have ha := hl a (by simp); have hb' := hl b (by simp); have hc := hl c (by simp)
    have q1 := abs_mul (hb b b hb' hb') (hb c c hc hc)
    have q2 := abs_mul (hb b c hb' hc) (hb c b hc hb')
    have q3 := abs_mul (hb b c hb' hc) (hb c a hc ha)
    have q4 := abs_mul (hb b a hb' ha) (hb c c hc hc)
    have q5 := abs_mul (hb b a hb' ha) (hb c b hc hb')
    have q6 := abs_mul (hb b b hb' hb') (hb c a hc ha)
    have t1 := abs_mul (B := 80000000000000000000000000000) (hb a a ha ha) (b := g2 f b b * g2 f c c - g2 f b c * g2 f c b) (by omega)
    have t2 := abs_mul (B := 80000000000000000000000000000) (hb a b ha hb') (b := g2 f b c * g2 f c a - g2 f b a * g2 f c c) (by omega)
    have t3 := abs_mul (B := 80000000000000000000000000000) (hb a c ha hc) (b := g2 f b a * g2 f c b - g2 f b b * g2 f c a) (by omega)
    simp only [detL]; omega
  | a :: b :: c :: d :: l, _ => simp [detL]
def posB (f : List (List Int)) : Bool := (List.range f.length).all fun k => decide (0 < detL f (List.range (k + 1)))
theorem Bd.mono {n : Nat} {f : List (List Int)} {a b : Int} (h : Bd n f a) (hab : a ≤ b) : Bd n f b := fun i k hi hk => by have := h i k hi hk; omega
theorem fs_all {α ρ : Type} (P : Nat → Bool) (r : ρ) : ∀ (l : List α) (k : Nat), fs (fun i (_ : α) => if P i then none else some r) k l = if (List.range l.length).all (fun j => P (k + j)) then none else some r := by
  intro l
  induction l with
  | nil => intro k; rfl
  | cons x xs ih =>
    intro k
    rw [List.length_cons, List.range_succ_eq_map]
    cases hp : P k with
    | true =>
      simp only [fs, hp, if_true, ih (k + 1), List.all_cons, Nat.add_zero, Bool.true_and, List.all_map]
      congr 2
      apply List.all_congr rfl
      intro j
      simp only [Function.comp]; rw [show k + 1 + j = k + (j + 1) by omega]
    | false => simp [fs, hp]
theorem wd_ok {n : Nat} {f : List (List Int)} (h : Sq n f) (hn : n ≤ 3) (hb : Bd n f 200000000000000) : levitate_widened_spec f = some (wd f) := by
  refine widened_ok f (by rw [h.len]; omega) fun r hr => ?_
  obtain ⟨i, hi, rfl⟩ := List.getElem_of_mem hr
  rw [h.len] at hi
  have e : f[i] = gr f i := gr_eq (by rw [h.len]; exact hi)
  rw [e]
  refine ⟨by rw [h.row i hi]; omega, fun x hx => ?_⟩
  obtain ⟨k, hk, rfl⟩ := mem_gi hx
  rw [h.row i hi] at hk
  have := hb i k hi hk
  unfold g2 at this
  omega
theorem positive_ok {f : List (List Int)} (h : Sq f.length f) (hn : f.length ≤ 3) (hb : Bd f.length f 200000000000000) : levitate_positive_spec f = some (posB f) := by
  unfold levitate_positive_spec
  rw [wd_ok h hn hb, Option.bind_some, loop_fs f (fun k _ => if (fun k => decide (0 < detL f (List.range (k + 1)))) k then none else some false)]
  · rw [fs_all]
    unfold posB
    simp only [Nat.zero_add]
    cases (List.range f.length).all fun k => decide (0 < detL f (List.range (k + 1))) <;> rfl
  · intro k hk
    unfold levitate_positive_s0
    rw [lt_nat hk, cond_true, w64n k (by omega), numbers_ok _ (by omega), Option.bind_some]
    have hl : ∀ x ∈ List.range (k + 1), x < f.length := fun x hx => by rw [List.mem_range] at hx; omega
    have hd := det_b hb hl
    rw [minor_ok h hl (by simp; omega), Option.bind_some, below_int (by omega), Option.bind_some]
    show _ = fsS (if decide (0 < detL f (List.range (k + 1))) then none else some false) k
    generalize hD : detL f (List.range (k + 1)) = D at *
    by_cases h1 : D < 0
    · have : ¬ 0 < D := by omega
      simp [h1, this, fsS]
    · by_cases h2 : D = 0
      · subst h2; simp [wideOf_ok, fsS]
      · have h3 : 0 < D := by omega
        have h4 : ¬ wOf D = wOf 0 := fun e => h2 ((wOf_zero (by omega)).1 e)
        simp [h1, h3, h4, wideOf_ok, fsS]
  · unfold levitate_positive_s0
    rw [lt_nat_no]; rfl

/-! ### No value below 0 -/
def setsOf : Nat → List (List Nat)
  | 1 => [[0]]
  | 2 => [[0], [1], [0, 1]]
  | 3 => [[0], [1], [0, 1], [2], [0, 2], [1, 2], [0, 1, 2]]
  | _ => []
def nevB (n : Nat) (d : List (List Int)) : Bool := (setsOf n).all fun l => decide (0 ≤ detL d l)
theorem delF_eq {set : Int} {xs ys : List Int} (h : ∀ e ∈ xs, 0 ≤ e ∧ e ≤ 62) (h0 : 0 < xs.length) (h1 : xs.length ≤ 1073741824) (hy : xs.filter (fun x => !offB set x) = ys) : delF set xs = some ys := by
  unfold delF; rw [if_pos ⟨h, h0, h1⟩, hy]
theorem loop_fs1 {α ρ : Type} {step : Int → Option (Int ⊕ (ρ ⊕ Unit))} (xs : List α) (f : Nat → α → Option ρ)
    (hs : ∀ k (hk : k < xs.length), step ((k + 1 : Nat) : Int) = fsS (f k xs[k]) (k + 1))
    (he : step ((xs.length + 1 : Nat) : Int) = some (.inr (.inr ()))) : loop step 1 = some (oi (fs f 0 xs)) := by
  have key : ∀ j k, j + k = xs.length → loop step ((k + 1 : Nat) : Int) = some (oi (fs f k (xs.drop k))) := by
    intro j
    induction j with
    | zero =>
      intro k hk
      obtain rfl : k = xs.length := by omega
      rw [List.drop_length]
      exact loop_inr he
    | succ j ih =>
      intro k hk
      have hlt : k < xs.length := by omega
      rw [List.drop_eq_getElem_cons hlt]
      have := hs k hlt
      simp only [fs]
      cases hp : f k xs[k] with
      | some r => rw [hp] at this; exact loop_inr this
      | none => rw [hp] at this; rw [loop_inl this]; exact ih (k + 1) (by omega)
  have := key xs.length 0 (by omega)
  simpa using this
theorem sets_ok {n : Nat} (h1 : 1 ≤ n) (h3 : n ≤ 3) : (setsOf n).length + 1 = 2 ^ n ∧ ∀ k (hk : k < (setsOf n).length), delF ((k + 1 : Nat) : Int) (nums (List.range n)) = some (nums (setsOf n)[k]) ∧ (∀ x ∈ (setsOf n)[k], x < n) ∧ (setsOf n)[k].length ≤ 3 := by
  match n, h1, h3 with
  | 1, _, _ =>
    refine ⟨rfl, fun k hk => ?_⟩
    match k, hk with
    | 0, _ => exact ⟨delF_eq (by decide) (by decide) (by decide) (show List.filter (fun x => !offB 1 x) (nums (List.range 1)) = nums [0] by decide), show ∀ x ∈ [0], x < 1 by decide, show [0].length ≤ 3 by decide⟩
  | 2, _, _ =>
    refine ⟨rfl, fun k hk => ?_⟩
    match k, hk with
    | 0, _ => exact ⟨delF_eq (by decide) (by decide) (by decide) (show List.filter (fun x => !offB 1 x) (nums (List.range 2)) = nums [0] by decide), show ∀ x ∈ [0], x < 2 by decide, show [0].length ≤ 3 by decide⟩
    | 1, _ => exact ⟨delF_eq (by decide) (by decide) (by decide) (show List.filter (fun x => !offB 2 x) (nums (List.range 2)) = nums [1] by decide), show ∀ x ∈ [1], x < 2 by decide, show [1].length ≤ 3 by decide⟩
    | 2, _ => exact ⟨delF_eq (by decide) (by decide) (by decide) (show List.filter (fun x => !offB 3 x) (nums (List.range 2)) = nums [0, 1] by decide), show ∀ x ∈ [0, 1], x < 2 by decide, show [0, 1].length ≤ 3 by decide⟩
  | 3, _, _ =>
    refine ⟨rfl, fun k hk => ?_⟩
    match k, hk with
    | 0, _ => exact ⟨delF_eq (by decide) (by decide) (by decide) (show List.filter (fun x => !offB 1 x) (nums (List.range 3)) = nums [0] by decide), show ∀ x ∈ [0], x < 3 by decide, show [0].length ≤ 3 by decide⟩
    | 1, _ => exact ⟨delF_eq (by decide) (by decide) (by decide) (show List.filter (fun x => !offB 2 x) (nums (List.range 3)) = nums [1] by decide), show ∀ x ∈ [1], x < 3 by decide, show [1].length ≤ 3 by decide⟩
    | 2, _ => exact ⟨delF_eq (by decide) (by decide) (by decide) (show List.filter (fun x => !offB 3 x) (nums (List.range 3)) = nums [0, 1] by decide), show ∀ x ∈ [0, 1], x < 3 by decide, show [0, 1].length ≤ 3 by decide⟩
    | 3, _ => exact ⟨delF_eq (by decide) (by decide) (by decide) (show List.filter (fun x => !offB 4 x) (nums (List.range 3)) = nums [2] by decide), show ∀ x ∈ [2], x < 3 by decide, show [2].length ≤ 3 by decide⟩
    | 4, _ => exact ⟨delF_eq (by decide) (by decide) (by decide) (show List.filter (fun x => !offB 5 x) (nums (List.range 3)) = nums [0, 2] by decide), show ∀ x ∈ [0, 2], x < 3 by decide, show [0, 2].length ≤ 3 by decide⟩
    | 5, _ => exact ⟨delF_eq (by decide) (by decide) (by decide) (show List.filter (fun x => !offB 6 x) (nums (List.range 3)) = nums [1, 2] by decide), show ∀ x ∈ [1, 2], x < 3 by decide, show [1, 2].length ≤ 3 by decide⟩
    | 6, _ => exact ⟨delF_eq (by decide) (by decide) (by decide) (show List.filter (fun x => !offB 7 x) (nums (List.range 3)) = nums [0, 1, 2] by decide), show ∀ x ∈ [0, 1, 2], x < 3 by decide, show [0, 1, 2].length ≤ 3 by decide⟩
theorem never_ok {n : Nat} {d : List (List Int)} (h1 : 1 ≤ n) (h3 : n ≤ 3) (h : Sq n d) (hb : Bd n d 200000000000000) : levitate_never_spec d = some (nevB n d) := by
  unfold levitate_never_spec
  have hs := sets_ok h1 h3
  rw [wd_ok h h3 hb, Option.bind_some, loop_fs1 (setsOf n) (fun _ l => if 0 ≤ detL d l then none else some false)]
  · have : ∀ (l : List (List Nat)) t, fs (fun _ l => if 0 ≤ detL d l then none else some false) t l = if l.all (fun l => decide (0 ≤ detL d l)) then none else some false := by
      intro l
      induction l with
      | nil => intro t; rfl
      | cons y ys ih =>
        intro t
        by_cases hy : 0 ≤ detL d y
        · simp [fs, hy]; simpa using ih (t + 1)
        · simp [fs, hy]
    rw [this]
    unfold nevB
    cases (setsOf n).all fun l => decide (0 ≤ detL d l) <;> rfl
  · intro k hk
    obtain ⟨e1, e2, e3⟩ := hs.2 k hk
    unfold levitate_never_s0
    rw [h.len, shl1 h3, Option.bind_some, lt_nat (by omega), cond_true, numbers_ok n (by omega), Option.bind_some, e1, Option.bind_some, minor_ok h e2 e3, Option.bind_some]
    have hd := det_b hb e2
    rw [below_int (by omega), Option.bind_some]
    have : w64 (((k + 1 : Nat) : Int) + 1) = ((k + 1 + 1 : Nat) : Int) := w64n (k + 1) (by have := pow_le8 h3; omega)
    rw [this]
    generalize detL d (setsOf n)[k] = D
    by_cases h0 : D < 0
    · have : ¬ 0 ≤ D := by omega
      simp [h0, this, fsS]
    · have : 0 ≤ D := by omega
      simp [h0, this, fsS]
  · unfold levitate_never_s0
    rw [h.len, shl1 h3, Option.bind_some, hs.1, lt_nat_no]; rfl
end Go.Gw

end
