/- Forms in plain words: numbers, minors, which forms are right. Condition: lists are short. -/
import Derived.Test.YtglaeocolbnpdaaGreatGwLev4
set_option maxRecDepth 4096
set_option linter.unusedSimpArgs false
set_option linter.unusedVariables false
namespace Go.Gw
open Go

def nums (l : List Nat) : List Int := l.map fun k : Nat => (k : Int)
theorem nums_len (l : List Nat) : (nums l).length = l.length := by simp [nums]
theorem idx_nums {l : List Nat} {k : Nat} (h : k < l.length) : idx (nums l) (k : Int) = some ((l[k] : Nat) : Int) := by
  rw [idx_nat (by rw [nums_len]; exact h)]; simp [nums]
theorem numbers_ok (n : Nat) (hn : n ≤ 1073741824) : levitate_numbers_spec (n : Int) = some (nums (List.range n)) := by
  unfold levitate_numbers_spec
  have key : ∀ k, k ≤ n → loop (levitate_numbers_s0 (n : Int)) (([] : List Int), 0) = loop (levitate_numbers_s0 (n : Int)) (nums (List.range k), (k : Int)) := by
    intro k
    induction k with
    | zero => intro _; rfl
    | succ k ih =>
      intro hk
      rw [ih (by omega)]
      refine loop_inl ?_
      unfold levitate_numbers_s0
      dsimp only
      rw [lt_nat (by omega), cond_true, app_ok (by simp [nums_len]; omega), Option.bind_some, w64n k (by omega)]
      simp [nums, List.range_succ]
  rw [key n (Nat.le_refl _)]
  have : levitate_numbers_s0 (n : Int) (nums (List.range n), (n : Int)) = some (.inr (nums (List.range n))) := by unfold levitate_numbers_s0; dsimp only; rw [lt_nat_no]; rfl
  rw [loop_inr this]; rfl

def g2 (f : List (List Int)) (i k : Nat) : Int := gi (gr f i) k
structure Sq (n : Nat) (f : List (List Int)) : Prop where
  len : f.length = n
  row : ∀ i, i < n → (gr f i).length = n
def Bd (n : Nat) (f : List (List Int)) (b : Int) : Prop := ∀ i k, i < n → k < n → -b ≤ g2 f i k ∧ g2 f i k ≤ b

/-! ### A loop that maps -/
theorem loop_map {α β : Type} {step : (List β × Int) → Option ((List β × Int) ⊕ List β)} (xs : List α) (g : α → β)
    (hs : ∀ k (hk : k < xs.length) (acc : List β), acc.length = k → step (acc, (k : Int)) = some (.inl (acc ++ [g xs[k]], ((k + 1 : Nat) : Int)))) (he : ∀ acc, step (acc, (xs.length : Int)) = some (.inr acc)) :
    loop step ([], 0) = some (xs.map g) := by
  have key : ∀ k, k ≤ xs.length → loop step ([], 0) = loop step ((xs.take k).map g, (k : Int)) := by
    intro k
    induction k with
    | zero => intro _; rfl
    | succ k ih =>
      intro hk
      rw [ih (by omega)]
      refine (loop_inl (hs k (by omega) _ (by simp; omega))).trans ?_
      have e : (xs.take (k + 1)).map g = (xs.take k).map g ++ [g xs[k]] := by rw [List.take_succ_eq_append_getElem (by omega), List.map_append]; rfl
      rw [e]
  rw [key _ (Nat.le_refl _), List.take_length]
  exact loop_inr (he _)
theorem widened_ok (f : List (List Int)) (hl : f.length ≤ 1000) (hr : ∀ r ∈ f, r.length ≤ 1000 ∧ ∀ x ∈ r, -9223372036854775808 ≤ x ∧ x ≤ 9223372036854775807) : levitate_widened_spec f = some (f.map fun r => r.map wOf) := by
  unfold levitate_widened_spec
  rw [loop_map f (fun r => r.map wOf)]
  · rfl
  · intro k hk acc hacc
    unfold levitate_widened_s1
    dsimp only
    have hm := hr _ (List.getElem_mem hk)
    rw [lt_nat hk, cond_true, idx_nat hk, Option.bind_some]
    rw [loop_map f[k] wOf]
    · rw [Option.bind_some, app_ok (by simp [hacc]; omega), Option.bind_some, w64n k (by omega)]
    · intro j hj acc2 hacc2
      unfold levitate_widened_s0
      dsimp only
      rw [lt_nat hj, cond_true, idx_nat hj, Option.bind_some, wideOf_ok (hm.2 _ (List.getElem_mem hj)), Option.bind_some, app_ok (by simp [hacc2]; omega), Option.bind_some, w64n j (by omega)]
    · intro acc2
      unfold levitate_widened_s0
      dsimp only
      rw [lt_nat_no]; rfl
  · intro acc
    unfold levitate_widened_s1
    dsimp only
    rw [lt_nat_no]; rfl

/-! ### Minors -/
def wd (f : List (List Int)) : List (List Arr3_U64) := f.map fun r => r.map wOf
def detL (f : List (List Int)) : List Nat → Int
  | [] => 1
  | [a] => g2 f a a
  | [a, b] => g2 f a a * g2 f b b - g2 f a b * g2 f b a
  | [a, b, c] => g2 f a a * (g2 f b b * g2 f c c - g2 f b c * g2 f c b) + g2 f a b * (g2 f b c * g2 f c a - g2 f b a * g2 f c c) + g2 f a c * (g2 f b a * g2 f c b - g2 f b b * g2 f c a)
  | _ => 0
theorem ent_ok {n : Nat} {f : List (List Int)} (h : Sq n f) {l : List Nat} (hl : ∀ x ∈ l, x < n) {i k : Nat} (hi : i < l.length) (hk : k < l.length) :
    levitate_minor_1_spec (i : Int) (k : Int) (wd f) (nums l) = some (wOf (g2 f l[i] l[k])) := by
  unfold levitate_minor_1_spec
  have h1 := hl _ (List.getElem_mem hi)
  have h2 := hl _ (List.getElem_mem hk)
  have h3 : l[i] < f.length := by rw [h.len]; exact h1
  rw [idx_nums hi, Option.bind_some]
  have e1 : idx (wd f) ((l[i] : Nat) : Int) = some ((gr f l[i]).map wOf) := by
    rw [idx_nat (by simp [wd]; exact h3)]
    simp only [wd, List.getElem_map]; rw [gr_eq h3]
  rw [e1, Option.bind_some, idx_nums hk, Option.bind_some]
  have h4 : l[k] < (gr f l[i]).length := by rw [h.row _ h1]; exact h2
  rw [idx_nat (by simpa using h4), Option.bind_some, List.getElem_map, gi_eq h4]; rfl
theorem minor_ok {n : Nat} {f : List (List Int)} (h : Sq n f) {l : List Nat} (hl : ∀ x ∈ l, x < n) (h3 : l.length ≤ 3) : levitate_minor_spec (wd f) (nums l) = some (wOf (detL f l)) := by
  unfold levitate_minor_spec
  have E := fun i k (hi : i < l.length) (hk : k < l.length) => ent_ok h hl hi hk
  match l, h3, E with
  | [], _, _ => simp only [nums, List.map_nil, List.length_nil]; rw [show decide (((0 : Nat) : Int) = 0) = true from rfl, cond_true, wideOf_ok (by decide)]; rfl
  | [a], _, E =>
    have E00 := E 0 0 (by simp) (by simp)
    rw [show decide (((nums [a]).length : Int) = 0) = false from rfl, cond_false, show decide (((nums [a]).length : Int) = 1) = true from rfl, cond_true]
    change Option.bind (levitate_minor_1_spec ((0 : Nat) : Int) ((0 : Nat) : Int) _ _) _ = _
    rw [E00]; rfl
  | [a, b], _, E =>
    have E00 := E 0 0 (by simp) (by simp)
    have E01 := E 0 1 (by simp) (by simp)
    have E10 := E 1 0 (by simp) (by simp)
    have E11 := E 1 1 (by simp) (by simp)
    rw [show decide (((nums [a, b]).length : Int) = 0) = false from rfl, cond_false, show decide (((nums [a, b]).length : Int) = 1) = false from rfl, cond_false, show decide (((nums [a, b]).length : Int) = 2) = true from rfl, cond_true]
    simp only [List.getElem_cons_zero, List.getElem_cons_succ] at E00 E01 E10 E11
    change levitate_minor_1_spec 0 0 (wd f) (nums [a, b]) = _ at E00
    change levitate_minor_1_spec 0 1 (wd f) (nums [a, b]) = _ at E01
    change levitate_minor_1_spec 1 0 (wd f) (nums [a, b]) = _ at E10
    change levitate_minor_1_spec 1 1 (wd f) (nums [a, b]) = _ at E11
    rw [E00, E01, E10, E11]
    simp only [Option.bind_some, times_ok, less_ok]
    rfl
  | [a, b, c], _, E =>
    have E00 : levitate_minor_1_spec 0 0 (wd f) (nums [a, b, c]) = _ := E 0 0 (by simp) (by simp)
    have E01 : levitate_minor_1_spec 0 1 (wd f) (nums [a, b, c]) = _ := E 0 1 (by simp) (by simp)
    have E02 : levitate_minor_1_spec 0 2 (wd f) (nums [a, b, c]) = _ := E 0 2 (by simp) (by simp)
    have E10 : levitate_minor_1_spec 1 0 (wd f) (nums [a, b, c]) = _ := E 1 0 (by simp) (by simp)
    have E11 : levitate_minor_1_spec 1 1 (wd f) (nums [a, b, c]) = _ := E 1 1 (by simp) (by simp)
    have E12 : levitate_minor_1_spec 1 2 (wd f) (nums [a, b, c]) = _ := E 1 2 (by simp) (by simp)
    have E20 : levitate_minor_1_spec 2 0 (wd f) (nums [a, b, c]) = _ := E 2 0 (by simp) (by simp)
    have E21 : levitate_minor_1_spec 2 1 (wd f) (nums [a, b, c]) = _ := E 2 1 (by simp) (by simp)
    have E22 : levitate_minor_1_spec 2 2 (wd f) (nums [a, b, c]) = _ := E 2 2 (by simp) (by simp)
    simp only [List.getElem_cons_zero, List.getElem_cons_succ] at E00 E01 E02 E10 E11 E12 E20 E21 E22
    rw [show decide (((nums [a, b, c]).length : Int) = 0) = false from rfl, cond_false, show decide (((nums [a, b, c]).length : Int) = 1) = false from rfl, cond_false, show decide (((nums [a, b, c]).length : Int) = 2) = false from rfl, cond_false,
      wideOf_ok (by decide), Option.bind_some]
    have w1 : ∀ x, Arr3_U64.mk (wOf x).e0 (wOf x).e1 (wOf x).e2 = wOf x := fun x => rfl
    have t : (Int.tmod (w64 (0 + 1)) 3 = 1 ∧ Int.tmod (w64 (0 + 2)) 3 = 2) ∧ (Int.tmod (w64 (1 + 1)) 3 = 2 ∧ Int.tmod (w64 (1 + 2)) 3 = 0) ∧ (Int.tmod (w64 (2 + 1)) 3 = 0 ∧ Int.tmod (w64 (2 + 2)) 3 = 1) := by decide
    have s0 : levitate_minor_s0 (wd f) (nums [a, b, c]) (0, (wOf 0).e0, (wOf 0).e1, (wOf 0).e2) = some (.inl (1, (wOf (0 + g2 f a a * (g2 f b b * g2 f c c - g2 f b c * g2 f c b))).e0, (wOf (0 + g2 f a a * (g2 f b b * g2 f c c - g2 f b c * g2 f c b))).e1, (wOf (0 + g2 f a a * (g2 f b b * g2 f c c - g2 f b c * g2 f c b))).e2)) := by
      simp only [levitate_minor_s0, show decide ((0 : Int) < 3) = true from rfl, cond_true, t, E00, E11, E22, E12, E21, Option.bind_some, times_ok, less_ok, w1, plus_ok]; rfl
    have s1 : ∀ x, levitate_minor_s0 (wd f) (nums [a, b, c]) (1, (wOf x).e0, (wOf x).e1, (wOf x).e2) = some (.inl (2, (wOf (x + g2 f a b * (g2 f b c * g2 f c a - g2 f b a * g2 f c c))).e0, (wOf (x + g2 f a b * (g2 f b c * g2 f c a - g2 f b a * g2 f c c))).e1, (wOf (x + g2 f a b * (g2 f b c * g2 f c a - g2 f b a * g2 f c c))).e2)) := by
      intro x
      simp only [levitate_minor_s0, show decide ((1 : Int) < 3) = true from rfl, cond_true, t, E01, E12, E20, E10, E22, Option.bind_some, times_ok, less_ok, w1, plus_ok]; rfl
    have s2 : ∀ x, levitate_minor_s0 (wd f) (nums [a, b, c]) (2, (wOf x).e0, (wOf x).e1, (wOf x).e2) = some (.inl (3, (wOf (x + g2 f a c * (g2 f b a * g2 f c b - g2 f b b * g2 f c a))).e0, (wOf (x + g2 f a c * (g2 f b a * g2 f c b - g2 f b b * g2 f c a))).e1, (wOf (x + g2 f a c * (g2 f b a * g2 f c b - g2 f b b * g2 f c a))).e2)) := by
      intro x
      simp only [levitate_minor_s0, show decide ((2 : Int) < 3) = true from rfl, cond_true, t, E02, E10, E21, E11, E20, Option.bind_some, times_ok, less_ok, w1, plus_ok]; rfl
    have s3 : ∀ x, levitate_minor_s0 (wd f) (nums [a, b, c]) (3, (wOf x).e0, (wOf x).e1, (wOf x).e2) = some (.inr ((wOf x).e0, (wOf x).e1, (wOf x).e2)) := fun x => rfl
    rw [loop_inl s0, loop_inl (s1 _), loop_inl (s2 _), loop_inr (s3 _)]
    simp only [Option.bind_some, w1, detL]
    congr 2; omega

/-! ### Which forms are right -/
def frow (f : List (List Int)) (i : Nat) (row : List Int) : Option Int := fs (fun k x => if smallB 10000 x then (if g2 f k i = x then none else some 3) else some 2) 0 row
def badRow (f : List (List Int)) (r : List Int) : Bool := !decide (r.length = f.length)
def frmE (f : List (List Int)) : Int :=
  if f.length = 0 then 10 else if 3 < f.length then 8 else if f.any (badRow f) then 10 else
    match fs (frow f) 0 f with | some e => e | none => 0
theorem sq_of {f : List (List Int)} (h : f.any (badRow f) = false) : Sq f.length f :=
  ⟨rfl, fun i hi => by rw [List.any_eq_false] at h; have := h _ (gr_mem hi); simpa [badRow] using this⟩
theorem lformErr_ok (f : List (List Int)) (hl : f.length < 1073741824) : levitate_formErr_spec f = some (frmE f) := by
  unfold levitate_formErr_spec
  simp only [lunless_ok, Option.bind_some, first2]
  have hc : slices_ContainsFunc_int_141_spec f f = some (f.any (badRow f)) := by
    unfold slices_ContainsFunc_int_141_spec slices_IndexFunc_int_141_spec
    rw [loop_fs f (fun k r => if badRow f r then some (k : Int) else none)]
    · rw [Option.bind_some, jn_ix (badRow f), Option.bind_some, ix_ge]
    · intro k hk
      unfold slices_IndexFunc_int_141_s0
      rw [lt_nat hk, idx_nat hk]
      simp only [cond_true, Option.bind_some, levitate_formErr_1_spec, len_dec]
      exact ix_step (w64n k (by omega))
    · unfold slices_IndexFunc_int_141_s0
      rw [lt_nat_no]; rfl
  have e1 : (decide ((0 : Int) < (f.length : Int))) = !decide (f.length = 0) := by rw [Bool.eq_iff_iff, Bool.not_eq_true', decide_eq_true_iff, decide_eq_false_iff_not]; omega
  have e2 : (decide ((f.length : Int) ≤ 3)) = !decide (3 < f.length) := by rw [Bool.eq_iff_iff, Bool.not_eq_true', decide_eq_true_iff, decide_eq_false_iff_not]; omega
  rw [e1, e2, hc]
  unfold frmE
  by_cases h1 : f.length = 0
  · simp [h1]
  · by_cases h2 : 3 < f.length
    · simp [h1, h2]
    · cases h3 : f.any (badRow f) with
      | true => simp [h1, h2]
      | false =>
        have hq := sq_of h3
        have hloop : loop (levitate_formErr_s1 f) 0 = some (oi (fs (frow f) 0 f)) := by
          refine loop_fs f _ (fun i hi => ?_) ?_
          · unfold levitate_formErr_s1
            rw [lt_nat hi, cond_true, idx_nat hi, Option.bind_some]
            have hri : f[i].length = f.length := by rw [gr_eq hi]; exact hq.row i hi
            have hin : loop (levitate_formErr_s0 f[i] f (i : Int)) 0 = some (oi ((frow f i f[i]).map fun r => (.inr (.inl r) : Int ⊕ (Int ⊕ Unit)))) := by
              rw [loop_fs f[i] (fun k x => (if smallB 10000 x then (if g2 f k i = x then none else some (3 : Int)) else some 2).map fun r => (.inr (.inl r) : Int ⊕ (Int ⊕ Unit)))]
              · rw [map_fs (fun r => (.inr (.inl r) : Int ⊕ (Int ⊕ Unit)))]; rfl
              · intro k hk
                have hkf : k < f.length := by omega
                have hki : i < (gr f k).length := by rw [hq.row k hkf]; exact hi
                unfold levitate_formErr_s0
                rw [lt_nat hk, cond_true, idx_nat hk, Option.bind_some, idx_gr hkf, Option.bind_some, idx_gi hki, Option.bind_some]
                simp only [lsmall_ok _ _ (show (0 : Int) ≤ 10000 ∧ (10000 : Int) ≤ 4611686018427387904 by decide), Option.bind_some, lunless_ok, first2]
                rw [w64n k (by omega)]
                show _ = fsS (Option.map _ (if smallB 10000 f[i][k] then (if g2 f k i = f[i][k] then none else some 3) else some 2)) k
                unfold g2
                cases smallB 10000 f[i][k] <;> by_cases h5 : gi (gr f k) i = f[i][k] <;> simp [h5, fsS]
              · unfold levitate_formErr_s0
                rw [lt_nat_no]; rfl
            rw [hin, Option.bind_some, w64n i (by omega)]
            cases frow f i f[i] <;> rfl
          · unfold levitate_formErr_s1
            rw [lt_nat_no]; rfl
        simp only [h1, h2, hloop, decide_false, Bool.not_false, cond_true, if_true, if_false, decide_true, Bool.not_true, cond_false, Option.bind_some, Bool.false_eq_true]
        cases fs (frow f) 0 f <;> rfl
structure Rf (f : List (List Int)) : Prop where
  n1 : 1 ≤ f.length
  n3 : f.length ≤ 3
  sq : Sq f.length f
  bd : Bd f.length f 10000
  sym : ∀ i k, i < f.length → k < f.length → g2 f k i = g2 f i k
theorem frmE_right {f : List (List Int)} : frmE f = 0 ↔ Rf f := by
  constructor
  · intro h
    unfold frmE at h
    by_cases h1 : f.length = 0
    · simp [h1] at h
    · by_cases h2 : 3 < f.length
      · simp [h1, h2] at h
      · cases h3 : f.any (badRow f) with
        | true => simp [h1, h2, h3] at h
        | false =>
          have hq := sq_of h3
          simp only [h1, h2, h3, if_false, Bool.false_eq_true] at h
          cases h4 : fs (frow f) 0 f with
          | some e =>
            simp only [h4] at h
            obtain ⟨i, hi, h5⟩ := fs_mem h4
            obtain ⟨k, hk, h6⟩ := fs_mem h5
            subst h
            split at h6
            · split at h6 <;> simp at h6
            · simp at h6
          | none =>
            rw [fs_none] at h4
            have key : ∀ i k, i < f.length → k < f.length → smallB 10000 (g2 f i k) = true ∧ g2 f k i = g2 f i k := by
              intro i k hi hk
              have h5 := h4 i hi
              unfold frow at h5
              rw [fs_none] at h5
              have hr : f[i].length = f.length := by rw [gr_eq hi]; exact hq.row i hi
              have h6 := h5 k (by omega)
              have e : f[i][k] = g2 f i k := by unfold g2; rw [gi_eq (by omega)]; congr 1; exact gr_eq hi
              simp only [Nat.zero_add, e] at h6
              split at h6
              · rename_i hs
                split at h6
                · rename_i hy; exact ⟨hs, hy⟩
                · cases h6
              · cases h6
            exact ⟨by omega, by omega, hq, fun i k hi hk => (small_iff _ _).1 (key i k hi hk).1, fun i k hi hk => (key i k hi hk).2⟩
  · intro h
    have h3 : f.any (badRow f) = false := by
      rw [List.any_eq_false]
      intro r hr
      obtain ⟨i, hi, rfl⟩ := List.getElem_of_mem hr
      have := h.sq.row i hi
      rw [← gr_eq hi] at this
      simp [badRow, this]
    have h4 : fs (frow f) 0 f = none := by
      rw [fs_none]
      intro i hi
      unfold frow
      rw [fs_none]
      intro k hk
      have hr : f[i].length = f.length := by rw [gr_eq hi]; exact h.sq.row i hi
      have hk' : k < f.length := by omega
      have e : f[i][k] = g2 f i k := by unfold g2; rw [gi_eq (by omega)]; congr 1; exact gr_eq hi
      simp only [Nat.zero_add, e]
      rw [if_pos ((small_iff _ _).2 (h.bd i k hi hk')), if_pos (h.sym i k hi hk')]
    unfold frmE
    rw [if_neg (by have := h.n1; omega), if_neg (by have := h.n3; omega), h3, h4]; rfl
end Go.Gw
