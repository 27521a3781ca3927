/- Forms in plain words: values, the worst disturbance, which forms are positive, which maps lessen them. Condition: lists are short. -/
import Derived.Test.YtglaeocolbnpdaaGreatGwLev5
set_option maxRecDepth 4096
set_option linter.unusedSimpArgs false
set_option linter.unusedVariables false
namespace Go.Gw
open Go

theorem w64_per (x q : Int) : w64 (x + 18446744073709551616 * q) = w64 x := by simp only [w64_eq]; omega
theorem w64_ex (x : Int) : ∃ q, w64 x = x + 18446744073709551616 * q := ⟨(w64 x - x) / 18446744073709551616, by simp only [w64_eq]; omega⟩
theorem w64_mul (a b : Int) : w64 (w64 a * b) = w64 (a * b) := by
  obtain ⟨q, hq⟩ := w64_ex a
  rw [hq, Int.add_mul, Int.mul_assoc, w64_per]
theorem w64_mul' (a b : Int) : w64 (a * w64 b) = w64 (a * b) := by rw [Int.mul_comm, w64_mul, Int.mul_comm]
theorem loop_list {β : Type} {step : (List β × Int) → Option ((List β × Int) ⊕ List β)} (n : Nat) (g : Nat → β)
    (hs : ∀ k, k < n → ∀ acc : List β, acc.length = k → step (acc, (k : Int)) = some (.inl (acc ++ [g k], ((k + 1 : Nat) : Int)))) (he : ∀ acc, step (acc, (n : Int)) = some (.inr acc)) :
    loop step ([], 0) = some ((List.range n).map g) := by
  have key : ∀ k, k ≤ n → loop step ([], 0) = loop step ((List.range k).map g, (k : Int)) := by
    intro k
    induction k with
    | zero => intro _; rfl
    | succ k ih =>
      intro hk
      rw [ih (by omega)]
      refine (loop_inl (hs k (by omega) _ (by simp))).trans ?_
      have e : (List.range (k + 1)).map g = (List.range k).map g ++ [g k] := by rw [List.range_succ, List.map_append]; rfl
      rw [e]
  rw [key _ (Nat.le_refl _)]
  exact loop_inr (he _)
def tab (n : Nat) (g : Nat → Int) : List Int := (List.range n).map g
theorem tab_len (n : Nat) (g : Nat → Int) : (tab n g).length = n := by simp [tab]
theorem gi_tab {n : Nat} {g : Nat → Int} {k : Nat} (h : k < n) : gi (tab n g) k = g k := by rw [← gi_eq (by rw [tab_len]; exact h)]; simp [tab]
def tab2 (n : Nat) (g : Nat → Nat → Int) : List (List Int) := (List.range n).map fun i => tab n (g i)
theorem tab2_len (n : Nat) (g : Nat → Nat → Int) : (tab2 n g).length = n := by simp [tab2]
theorem gr_tab2 {n : Nat} {g : Nat → Nat → Int} {i : Nat} (h : i < n) : gr (tab2 n g) i = tab n (g i) := by rw [← gr_eq (by rw [tab2_len]; exact h)]; simp [tab2]
theorem g2_tab2 {n : Nat} {g : Nat → Nat → Int} {i k : Nat} (hi : i < n) (hk : k < n) : g2 (tab2 n g) i k = g i k := by unfold g2; rw [gr_tab2 hi, gi_tab hk]
theorem sq_tab2 (n : Nat) (g : Nat → Nat → Int) : Sq n (tab2 n g) := ⟨tab2_len n g, fun i hi => by rw [gr_tab2 hi, tab_len]⟩

/-! ### Values -/
theorem dot_ok {a b : List Int} (h : a.length ≤ b.length) (hl : a.length < 1073741824) : levitate_dot_spec a b = some (w64 (sumN (fun k => gi a k * gi b k) a.length)) := by
  unfold levitate_dot_spec
  rw [loop_sum a.length (fun k => gi a k * gi b k)]
  · rfl
  · intro k hk acc
    unfold levitate_dot_s0
    dsimp only
    rw [lt_nat hk, cond_true, idx_gi hk, Option.bind_some, idx_gi (by omega), Option.bind_some, w64_add', w64n k (by omega)]
  · intro acc
    unfold levitate_dot_s0
    dsimp only
    rw [lt_nat_no]; rfl
def valI (n : Nat) (f : List (List Int)) (x : List Int) : Int := sumN (fun i => gi x i * sumN (fun k => g2 f i k * gi x k) n) n
theorem value_ok {n : Nat} {f : List (List Int)} (h : Sq n f) {x : List Int} (hx : x.length = n) (hn : n < 1073741824) : levitate_value_spec f x = some (w64 (valI n f x)) := by
  unfold levitate_value_spec
  rw [loop_sum n (fun i => gi x i * sumN (fun k => g2 f i k * gi x k) n)]
  · rfl
  · intro k hk acc
    unfold levitate_value_s0
    dsimp only
    have hr := h.row k hk
    rw [h.len, lt_nat hk, cond_true, idx_gr (by rw [h.len]; exact hk), Option.bind_some, idx_gi (by omega), Option.bind_some, dot_ok (by omega) (by omega), Option.bind_some, w64_add', w64n k (by omega), hr]
    congr 3
    rw [← w64_add', w64_mul', w64_add']; rfl
  · intro acc
    unfold levitate_value_s0
    dsimp only
    rw [h.len, lt_nat_no]; rfl

/-! ### The worst disturbance -/
theorem andI1 {q : Int} (h : 0 ≤ q ∧ q < 4611686018427387904) : andS .i64 q 1 = q % 2 := by
  unfold andS
  have e1 : (BitVec.ofInt IntKind.i64.bits q &&& BitVec.ofInt IntKind.i64.bits 1).toNat = q.toNat % 2 := by
    rw [BitVec.toNat_and]
    have h1 : (BitVec.ofInt IntKind.i64.bits q).toNat = q.toNat := by
      rw [BitVec.toNat_ofInt]
      have : ((2 ^ IntKind.i64.bits : Nat) : Int) = 18446744073709551616 := by decide
      rw [this]; omega
    have h2 : (BitVec.ofInt IntKind.i64.bits 1).toNat = 1 := by decide
    rw [h1, h2, Nat.and_one_is_mod]
  rw [e1]
  show w64 _ = _
  rw [w64_id (by omega)]; omega
def sgn (s i : Nat) : Int := 1 - 2 * ((s / 2 ^ i % 2 : Nat) : Int)
def xv (p : LevitatePlant) (s : Nat) : List Int := tab p.Noise.length fun i => (gi p.Noise i + 1) * sgn s i
def wst (v : Nat → Int) : Nat → Int
  | 0 => 0
  | s + 1 => if s = 0 ∨ wst v s < v s then v s else wst v s
def worstI (p : LevitatePlant) (f : List (List Int)) : Int := wst (fun s => valI p.Noise.length f (xv p s)) (2 ^ p.Noise.length)
theorem abs_mul {a b A B : Int} (ha : -A ≤ a ∧ a ≤ A) (hb : -B ≤ b ∧ b ≤ B) : -(A * B) ≤ a * b ∧ a * b ≤ A * B := by
  have hA : 0 ≤ A := by omega
  have hB : 0 ≤ B := by omega
  have h1 : (a * b).natAbs ≤ A.toNat * B.toNat := by rw [Int.natAbs_mul]; exact Nat.mul_le_mul (by omega) (by omega)
  have h2 : ((A.toNat * B.toNat : Nat) : Int) = A * B := by rw [Int.natCast_mul]; congr 1 <;> omega
  omega
theorem sumN_abs {t : Nat → Int} {B : Int} : ∀ {n : Nat}, (∀ k, k < n → -B ≤ t k ∧ t k ≤ B) → -(n * B) ≤ sumN t n ∧ sumN t n ≤ n * B
  | 0, _ => by simp [sumN]
  | n + 1, h => by
    simp only [sumN]
    have h1 := sumN_abs (n := n) (fun k hk => h k (by omega)); have h2 := h n (by omega)
    have : ((n + 1 : Nat) : Int) * B = n * B + B := by rw [Int.natCast_add, Int.add_mul]; simp
    omega
theorem sumN_abs3 {t : Nat → Int} {B : Int} {n : Nat} (hn : n ≤ 3) (hB : 0 ≤ B) (h : ∀ k, k < n → -B ≤ t k ∧ t k ≤ B) : -(3 * B) ≤ sumN t n ∧ sumN t n ≤ 3 * B := by
  have h1 := sumN_abs h
  have h2 : (n : Int) * B ≤ 3 * B := Int.mul_le_mul_of_nonneg_right (by omega) hB
  omega
theorem valI_b {n : Nat} {f : List (List Int)} (hn : n ≤ 3) (hf : Bd n f 10000) {x : List Int} {X : Int} (hX : 0 ≤ X) (hx : ∀ k, k < n → -X ≤ gi x k ∧ gi x k ≤ X) : -(3 * (X * (3 * (10000 * X)))) ≤ valI n f x ∧ valI n f x ≤ 3 * (X * (3 * (10000 * X))) := by
  have h1 : 0 ≤ 10000 * X := by omega
  refine sumN_abs3 hn (Int.mul_nonneg hX (by omega)) fun i hi => abs_mul (hx i hi) (sumN_abs3 hn h1 fun k hk => abs_mul (hf i k hi hk) (hx k hk))
theorem sgn_pm (s i : Nat) : sgn s i = 1 ∨ sgn s i = -1 := by unfold sgn; omega
theorem xv_b {p : LevitatePlant} (h : Rp p) (s : Nat) {k : Nat} (hk : k < p.Noise.length) : -10001 ≤ gi (xv p s) k ∧ gi (xv p s) k ≤ 10001 := by
  unfold xv
  rw [gi_tab hk]
  have := h.noise_b hk
  rcases sgn_pm s k with h1 | h1 <;> rw [h1] <;> omega
theorem xv_ok {p : LevitatePlant} (h : Rp p) {s : Nat} (hs : s < 8) : loop (levitate_plant_worst_s0 ⟨p⟩ (s : Int)) ([], 0) = some (xv p s) := by
  refine loop_list p.Noise.length _ (fun k hk acc hacc => ?_) (fun acc => ?_)
  · unfold levitate_plant_worst_s0
    dsimp only
    have hb := h.noise_b hk
    have hk3 : k < 3 := by have := h.n3; omega
    rw [lt_nat hk, cond_true, idx_gi hk, Option.bind_some, shrI _ k (by omega), Option.bind_some]
    have e : (s : Int) / 2 ^ k = ((s / 2 ^ k : Nat) : Int) := by rw [Int.natCast_ediv, Int.natCast_pow]; rfl
    have hle : s / 2 ^ k ≤ s := Nat.div_le_self _ _
    have e3 : sgn s k = 1 - 2 * ((s / 2 ^ k % 2 : Nat) : Int) := rfl
    rw [e, e3]
    generalize s / 2 ^ k = Q at *
    rw [andI1 (by omega), app_ok (by simp [hacc]; omega), Option.bind_some, w64n k (by omega)]
    have e2 : w64 (w64 (gi p.Noise k + 1) * w64 (1 - w64 (2 * ((Q : Int) % 2)))) = (gi p.Noise k + 1) * (1 - 2 * ((Q % 2 : Nat) : Int)) := by
      rw [w64_id (x := gi p.Noise k + 1) (by omega), w64_id (x := 2 * _) (by omega), w64_id (x := 1 - _) (by omega)]
      have e4 : 1 - 2 * ((Q : Int) % 2) = 1 - 2 * ((Q % 2 : Nat) : Int) := by omega
      rw [e4]
      have h1 : 1 - 2 * ((Q % 2 : Nat) : Int) = 1 ∨ 1 - 2 * ((Q % 2 : Nat) : Int) = -1 := by omega
      rcases h1 with h1 | h1 <;> rw [h1] <;> rw [w64_id (by omega)]
    rw [e2]
  · unfold levitate_plant_worst_s0
    dsimp only
    rw [lt_nat_no]; rfl
theorem pow_le8 {n : Nat} (h : n ≤ 3) : 2 ^ n ≤ 8 := by
  have : 2 ^ n ≤ 2 ^ 3 := Nat.pow_le_pow_right (by decide) h
  omega
theorem shl1 {n : Nat} (h : n ≤ 3) : shlS .i64 1 (n : Int) = some ((2 ^ n : Nat) : Int) := by
  match n, h with
  | 0, _ => rfl
  | 1, _ => rfl
  | 2, _ => rfl
  | 3, _ => rfl
theorem worst_ok {p : LevitatePlant} (h : Rp p) {f : List (List Int)} (hf : Sq p.Noise.length f) (hb : Bd p.Noise.length f 10000) : levitate_plant_worst_spec ⟨p⟩ f = some (worstI p f) := by
  unfold levitate_plant_worst_spec
  have h3 := h.n3
  have h8 := pow_le8 h3
  rw [hf.len, shl1 h3, Option.bind_some]
  have vb : ∀ s, -(3 * (10001 * (3 * (10000 * 10001)))) ≤ valI p.Noise.length f (xv p s) ∧ valI p.Noise.length f (xv p s) ≤ 3 * (10001 * (3 * (10000 * 10001))) := fun s => valI_b h3 hb (by decide) (fun k hk => xv_b h s hk)
  have key : ∀ s, s ≤ 2 ^ p.Noise.length → loop (levitate_plant_worst_s1 f ⟨p⟩ ((2 ^ p.Noise.length : Nat) : Int)) (0, 0) = loop (levitate_plant_worst_s1 f ⟨p⟩ ((2 ^ p.Noise.length : Nat) : Int)) (wst (fun s => valI p.Noise.length f (xv p s)) s, (s : Int)) := by
    intro s
    induction s with
    | zero => intro _; rfl
    | succ s ih =>
      intro hs
      rw [ih (by omega)]
      refine loop_inl ?_
      unfold levitate_plant_worst_s1
      dsimp only
      rw [lt_nat (by omega), cond_true, xv_ok h (by omega), Option.bind_some, value_ok hf (by unfold xv; rw [tab_len]) (by omega), Option.bind_some, w64n s (by omega)]
      have := vb s
      rw [w64_id (by omega)]
      have e0 : decide ((s : Int) = 0) = decide (s = 0) := len_dec _ 0
      rw [e0]
      simp only [wst]
      by_cases h1 : s = 0
      · simp [h1]
      · by_cases h2 : wst (fun s => valI p.Noise.length f (xv p s)) s < valI p.Noise.length f (xv p s)
        · simp [h1, h2]
        · simp [h1, h2]
  rw [key _ (Nat.le_refl _)]
  have : levitate_plant_worst_s1 f ⟨p⟩ ((2 ^ p.Noise.length : Nat) : Int) (wst (fun s => valI p.Noise.length f (xv p s)) (2 ^ p.Noise.length), ((2 ^ p.Noise.length : Nat) : Int)) = some (.inr (wst (fun s => valI p.Noise.length f (xv p s)) (2 ^ p.Noise.length))) := by
    unfold levitate_plant_worst_s1
    dsimp only
    rw [lt_nat_no]; rfl
  rw [loop_inr this]; rfl
/-! ### Signs of minors -/
theorem below_int {x : Int} (h : -3138550867693340381917894711603833208051177722232017256448 ≤ x ∧ x < 3138550867693340381917894711603833208051177722232017256448) : levitate_wide_below_spec (wOf x) = some (decide (x < 0)) := by
  rw [below_ok]; congr 1; rw [decide_eq_decide]; omega
theorem wOf_zero {x : Int} (h : -3138550867693340381917894711603833208051177722232017256448 ≤ x ∧ x < 3138550867693340381917894711603833208051177722232017256448) : wOf x = wOf 0 ↔ x = 0 := by
  constructor
  · intro e; have := wOf_inj e; omega
  · rintro rfl; rfl
theorem det_b {n : Nat} {f : List (List Int)} (hb : Bd n f 200000000000000) {l : List Nat} (hl : ∀ x ∈ l, x < n) : -50000000000000000000000000000000000000000000 ≤ detL f l ∧ detL f l ≤ 50000000000000000000000000000000000000000000 := by
  match l, hl with
  | [], _ => simp [detL]
  | [a], hl => have := hb a a (hl a (by simp)) (hl a (by simp)); simp only [detL]; omega
  | [a, b], hl =>
    have ha := hl a (by simp); have hb' := hl b (by simp)
    have h1 := abs_mul (hb a a ha ha) (hb b b hb' hb')
    have h2 := abs_mul (hb a b ha hb') (hb b a hb' ha)
    simp only [detL]; omega
  | [a, b, c], hl =>
    have ha := hl a (by simp); have hb' := hl b (by simp); have hc := hl c (by simp)
    have q1 := abs_mul (hb b b hb' hb') (hb c c hc hc)
    have q2 := abs_mul (hb b c hb' hc) (hb c b hc hb')
    have q3 := abs_mul (hb b c hb' hc) (hb c a hc ha)
    have q4 := abs_mul (hb b a hb' ha) (hb c c hc hc)
    have q5 := abs_mul (hb b a hb' ha) (hb c b hc hb')
    have q6 := abs_mul (hb b b hb' hb') (hb c a hc ha)
    have t1 := abs_mul (B := 80000000000000000000000000000) (hb a a ha ha) (b := g2 f b b * g2 f c c - g2 f b c * g2 f c b) (by omega)
    have t2 := abs_mul (B := 80000000000000000000000000000) (hb a b ha hb') (b := g2 f b c * g2 f c a - g2 f b a * g2 f c c) (by omega)
    have t3 := abs_mul (B := 80000000000000000000000000000) (hb a c ha hc) (b := g2 f b a * g2 f c b - g2 f b b * g2 f c a) (by omega)
    simp only [detL]; omega
  | a :: b :: c :: d :: l, _ => simp [detL]
def posB (f : List (List Int)) : Bool := (List.range f.length).all fun k => decide (0 < detL f (List.range (k + 1)))
theorem Bd.mono {n : Nat} {f : List (List Int)} {a b : Int} (h : Bd n f a) (hab : a ≤ b) : Bd n f b := fun i k hi hk => by have := h i k hi hk; omega
theorem fs_all {α ρ : Type} (P : Nat → Bool) (r : ρ) : ∀ (l : List α) (k : Nat), fs (fun i (_ : α) => if P i then none else some r) k l = if (List.range l.length).all (fun j => P (k + j)) then none else some r := by
  intro l
  induction l with
  | nil => intro k; rfl
  | cons x xs ih =>
    intro k
    rw [List.length_cons, List.range_succ_eq_map]
    cases hp : P k with
    | true =>
      simp only [fs, hp, if_true, ih (k + 1), List.all_cons, Nat.add_zero, Bool.true_and, List.all_map]
      congr 2
      apply List.all_congr rfl
      intro j
      simp only [Function.comp]; rw [show k + 1 + j = k + (j + 1) by omega]
    | false => simp [fs, hp]
theorem wd_ok {n : Nat} {f : List (List Int)} (h : Sq n f) (hn : n ≤ 3) (hb : Bd n f 200000000000000) : levitate_widened_spec f = some (wd f) := by
  refine widened_ok f (by rw [h.len]; omega) fun r hr => ?_
  obtain ⟨i, hi, rfl⟩ := List.getElem_of_mem hr
  rw [h.len] at hi
  have e : f[i] = gr f i := gr_eq (by rw [h.len]; exact hi)
  rw [e]
  refine ⟨by rw [h.row i hi]; omega, fun x hx => ?_⟩
  obtain ⟨k, hk, rfl⟩ := mem_gi hx
  rw [h.row i hi] at hk
  have := hb i k hi hk
  unfold g2 at this
  omega
theorem positive_ok {f : List (List Int)} (h : Sq f.length f) (hn : f.length ≤ 3) (hb : Bd f.length f 200000000000000) : levitate_positive_spec f = some (posB f) := by
  unfold levitate_positive_spec
  rw [wd_ok h hn hb, Option.bind_some, loop_fs f (fun k _ => if (fun k => decide (0 < detL f (List.range (k + 1)))) k then none else some false)]
  · rw [fs_all]
    unfold posB
    simp only [Nat.zero_add]
    cases (List.range f.length).all fun k => decide (0 < detL f (List.range (k + 1))) <;> rfl
  · intro k hk
    unfold levitate_positive_s0
    rw [lt_nat hk, cond_true, w64n k (by omega), numbers_ok _ (by omega), Option.bind_some]
    have hl : ∀ x ∈ List.range (k + 1), x < f.length := fun x hx => by rw [List.mem_range] at hx; omega
    have hd := det_b hb hl
    rw [minor_ok h hl (by simp; omega), Option.bind_some, below_int (by omega), Option.bind_some]
    show _ = fsS (if decide (0 < detL f (List.range (k + 1))) then none else some false) k
    generalize hD : detL f (List.range (k + 1)) = D at *
    by_cases h1 : D < 0
    · have : ¬ 0 < D := by omega
      simp [h1, this, fsS]
    · by_cases h2 : D = 0
      · subst h2; simp [wideOf_ok, fsS]
      · have h3 : 0 < D := by omega
        have h4 : ¬ wOf D = wOf 0 := fun e => h2 ((wOf_zero (by omega)).1 e)
        simp [h1, h3, h4, wideOf_ok, fsS]
  · unfold levitate_positive_s0
    rw [lt_nat_no]; rfl

/-! ### No value below 0 -/
def setsOf : Nat → List (List Nat)
  | 1 => [[0]]
  | 2 => [[0], [1], [0, 1]]
  | 3 => [[0], [1], [0, 1], [2], [0, 2], [1, 2], [0, 1, 2]]
  | _ => []
def nevB (n : Nat) (d : List (List Int)) : Bool := (setsOf n).all fun l => decide (0 ≤ detL d l)
theorem delF_eq {set : Int} {xs ys : List Int} (h : ∀ e ∈ xs, 0 ≤ e ∧ e ≤ 62) (h0 : 0 < xs.length) (h1 : xs.length ≤ 1073741824) (hy : xs.filter (fun x => !offB set x) = ys) : delF set xs = some ys := by
  unfold delF; rw [if_pos ⟨h, h0, h1⟩, hy]
theorem loop_fs1 {α ρ : Type} {step : Int → Option (Int ⊕ (ρ ⊕ Unit))} (xs : List α) (f : Nat → α → Option ρ)
    (hs : ∀ k (hk : k < xs.length), step ((k + 1 : Nat) : Int) = fsS (f k xs[k]) (k + 1))
    (he : step ((xs.length + 1 : Nat) : Int) = some (.inr (.inr ()))) : loop step 1 = some (oi (fs f 0 xs)) := by
  have key : ∀ j k, j + k = xs.length → loop step ((k + 1 : Nat) : Int) = some (oi (fs f k (xs.drop k))) := by
    intro j
    induction j with
    | zero =>
      intro k hk
      obtain rfl : k = xs.length := by omega
      rw [List.drop_length]
      exact loop_inr he
    | succ j ih =>
      intro k hk
      have hlt : k < xs.length := by omega
      rw [List.drop_eq_getElem_cons hlt]
      have := hs k hlt
      simp only [fs]
      cases hp : f k xs[k] with
      | some r => rw [hp] at this; exact loop_inr this
      | none => rw [hp] at this; rw [loop_inl this]; exact ih (k + 1) (by omega)
  have := key xs.length 0 (by omega)
  simpa using this
theorem sets_ok {n : Nat} (h1 : 1 ≤ n) (h3 : n ≤ 3) : (setsOf n).length + 1 = 2 ^ n ∧ ∀ k (hk : k < (setsOf n).length), delF ((k + 1 : Nat) : Int) (nums (List.range n)) = some (nums (setsOf n)[k]) ∧ (∀ x ∈ (setsOf n)[k], x < n) ∧ (setsOf n)[k].length ≤ 3 := by
  match n, h1, h3 with
  | 1, _, _ =>
    refine ⟨rfl, fun k hk => ?_⟩
    match k, hk with
    | 0, _ => exact ⟨delF_eq (by decide) (by decide) (by decide) (show List.filter (fun x => !offB 1 x) (nums (List.range 1)) = nums [0] by decide), show ∀ x ∈ [0], x < 1 by decide, show [0].length ≤ 3 by decide⟩
  | 2, _, _ =>
    refine ⟨rfl, fun k hk => ?_⟩
    match k, hk with
    | 0, _ => exact ⟨delF_eq (by decide) (by decide) (by decide) (show List.filter (fun x => !offB 1 x) (nums (List.range 2)) = nums [0] by decide), show ∀ x ∈ [0], x < 2 by decide, show [0].length ≤ 3 by decide⟩
    | 1, _ => exact ⟨delF_eq (by decide) (by decide) (by decide) (show List.filter (fun x => !offB 2 x) (nums (List.range 2)) = nums [1] by decide), show ∀ x ∈ [1], x < 2 by decide, show [1].length ≤ 3 by decide⟩
    | 2, _ => exact ⟨delF_eq (by decide) (by decide) (by decide) (show List.filter (fun x => !offB 3 x) (nums (List.range 2)) = nums [0, 1] by decide), show ∀ x ∈ [0, 1], x < 2 by decide, show [0, 1].length ≤ 3 by decide⟩
  | 3, _, _ =>
    refine ⟨rfl, fun k hk => ?_⟩
    match k, hk with
    | 0, _ => exact ⟨delF_eq (by decide) (by decide) (by decide) (show List.filter (fun x => !offB 1 x) (nums (List.range 3)) = nums [0] by decide), show ∀ x ∈ [0], x < 3 by decide, show [0].length ≤ 3 by decide⟩
    | 1, _ => exact ⟨delF_eq (by decide) (by decide) (by decide) (show List.filter (fun x => !offB 2 x) (nums (List.range 3)) = nums [1] by decide), show ∀ x ∈ [1], x < 3 by decide, show [1].length ≤ 3 by decide⟩
    | 2, _ => exact ⟨delF_eq (by decide) (by decide) (by decide) (show List.filter (fun x => !offB 3 x) (nums (List.range 3)) = nums [0, 1] by decide), show ∀ x ∈ [0, 1], x < 3 by decide, show [0, 1].length ≤ 3 by decide⟩
    | 3, _ => exact ⟨delF_eq (by decide) (by decide) (by decide) (show List.filter (fun x => !offB 4 x) (nums (List.range 3)) = nums [2] by decide), show ∀ x ∈ [2], x < 3 by decide, show [2].length ≤ 3 by decide⟩
    | 4, _ => exact ⟨delF_eq (by decide) (by decide) (by decide) (show List.filter (fun x => !offB 5 x) (nums (List.range 3)) = nums [0, 2] by decide), show ∀ x ∈ [0, 2], x < 3 by decide, show [0, 2].length ≤ 3 by decide⟩
    | 5, _ => exact ⟨delF_eq (by decide) (by decide) (by decide) (show List.filter (fun x => !offB 6 x) (nums (List.range 3)) = nums [1, 2] by decide), show ∀ x ∈ [1, 2], x < 3 by decide, show [1, 2].length ≤ 3 by decide⟩
    | 6, _ => exact ⟨delF_eq (by decide) (by decide) (by decide) (show List.filter (fun x => !offB 7 x) (nums (List.range 3)) = nums [0, 1, 2] by decide), show ∀ x ∈ [0, 1, 2], x < 3 by decide, show [0, 1, 2].length ≤ 3 by decide⟩
theorem never_ok {n : Nat} {d : List (List Int)} (h1 : 1 ≤ n) (h3 : n ≤ 3) (h : Sq n d) (hb : Bd n d 200000000000000) : levitate_never_spec d = some (nevB n d) := by
  unfold levitate_never_spec
  have hs := sets_ok h1 h3
  rw [wd_ok h h3 hb, Option.bind_some, loop_fs1 (setsOf n) (fun _ l => if 0 ≤ detL d l then none else some false)]
  · have : ∀ (l : List (List Nat)) t, fs (fun _ l => if 0 ≤ detL d l then none else some false) t l = if l.all (fun l => decide (0 ≤ detL d l)) then none else some false := by
      intro l
      induction l with
      | nil => intro t; rfl
      | cons y ys ih =>
        intro t
        by_cases hy : 0 ≤ detL d y
        · simp [fs, hy]; simpa using ih (t + 1)
        · simp [fs, hy]
    rw [this]
    unfold nevB
    cases (setsOf n).all fun l => decide (0 ≤ detL d l) <;> rfl
  · intro k hk
    obtain ⟨e1, e2, e3⟩ := hs.2 k hk
    unfold levitate_never_s0
    rw [h.len, shl1 h3, Option.bind_some, lt_nat (by omega), cond_true, numbers_ok n (by omega), Option.bind_some, e1, Option.bind_some, minor_ok h e2 e3, Option.bind_some]
    have hd := det_b hb e2
    rw [below_int (by omega), Option.bind_some]
    have : w64 (((k + 1 : Nat) : Int) + 1) = ((k + 1 + 1 : Nat) : Int) := w64n (k + 1) (by have := pow_le8 h3; omega)
    rw [this]
    generalize detL d (setsOf n)[k] = D
    by_cases h0 : D < 0
    · have : ¬ 0 ≤ D := by omega
      simp [h0, this, fsS]
    · have : 0 ≤ D := by omega
      simp [h0, this, fsS]
  · unfold levitate_never_s0
    rw [h.len, shl1 h3, Option.bind_some, hs.1, lt_nat_no]; rfl
end Go.Gw
