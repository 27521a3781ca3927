/- Laws of the walk. Condition: each theorem says its own. -/
import Derived.Test.YtglaeocolbnpdaaGreatGwSort
import Derived.Test.YtglaeocolbnpdaaGreatGwFnZ
section
namespace Go.Gw
section
variable {α β γ σ ρ : Type}
def QFs (p : α → Bool) (res : Nat → α → ρ) : Nat → List α → ρ ⊕ Unit
  | _, [] => .inr ()
  | k, x :: xs => if p x then .inl (res k x) else QFs p res (k + 1) xs
def fld (f : Nat → γ → α → γ) : Nat → γ → List α → γ
  | _, a, [] => a
  | k, a, x :: xs => fld f (k + 1) (f k a x) xs
def rng (f : Nat → γ → γ) (a : γ) : Nat → γ
  | 0 => a
  | n + 1 => f n (rng f a n)
theorem Qzz {step : σ → Option (σ ⊕ β)} (n : Nat) (f : Nat → γ → γ) (S : γ → Nat → σ) (o : γ → β) (Inv : γ → Nat → Prop) (a0 : γ) (h0 : Inv a0 0)
    (hs : ∀ k, k < n → ∀ a, Inv a k → step (S a k) = some (.inl (S (f k a) (k + 1))) ∧ Inv (f k a) (k + 1))
    (he : ∀ a, Inv a n → step (S a n) = some (.inr (o a))) : loop step (S a0 0) = some (o (rng f a0 n)) ∧ Inv (rng f a0 n) n := by
  have key : ∀ k, k ≤ n → Inv (rng f a0 k) k ∧ loop step (S a0 0) = loop step (S (rng f a0 k) k) := by
    intro k
    induction k with
    | zero => intro _; exact ⟨h0, rfl⟩
    | succ k ih =>
      intro hk
      obtain ⟨h1, h2⟩ := ih (by omega)
      have := hs k (by omega) _ h1
      exact ⟨this.2, by rw [h2, YC this.1]; rfl⟩
  obtain ⟨h1, h2⟩ := key n (Nat.le_refl _)
  exact ⟨by rw [h2]; exact XZ (he _ h1), h1⟩
theorem Xk (k : Nat) (h : k < 4611686018427387904) : w64 ((k : Int) + 1) = ((k + 1 : Nat) : Int) := by rw [Xa (by omega)]; omega
theorem Xm {k n : Nat} (h : k < n) : decide ((k : Int) < (n : Int)) = true := by simp; omega
theorem Xn (n : Nat) : decide ((n : Int) < (n : Int)) = false := by simp
end
end Go.Gw

end
section
set_option maxRecDepth 4096
set_option linter.unusedSimpArgs false
set_option linter.unusedVariables false
namespace Go.Gw
open Go

def fs {α ρ : Type} (f : Nat → α → Option ρ) : Nat → List α → Option ρ
  | _, [] => none
  | k, x :: xs => match f k x with | some r => some r | none => fs f (k + 1) xs
def oi {ρ : Type} : Option ρ → ρ ⊕ Unit
  | some r => .inl r
  | none => .inr ()
def XS {ρ : Type} (o : Option ρ) (k : Nat) : Option (Int ⊕ (ρ ⊕ Unit)) := match o with | some r => some (.inr (.inl r)) | none => some (.inl ((k + 1 : Nat) : Int))
theorem Ya {α ρ : Type} {step : Int → Option (Int ⊕ (ρ ⊕ Unit))} (xs : List α) (f : Nat → α → Option ρ)
    (hs : ∀ k (hk : k < xs.length), step (k : Int) = XS (f k xs[k]) k)
    (he : step (xs.length : Int) = some (.inr (.inr ()))) : loop step 0 = some (oi (fs f 0 xs)) := by
  have key : ∀ j k, j + k = xs.length → loop step (k : Int) = some (oi (fs f k (xs.drop k))) := by
    intro j
    induction j with
    | zero =>
      intro k hk
      obtain rfl : k = xs.length := by omega
      rw [List.drop_length]
      exact XZ he
    | succ j ih =>
      intro k hk
      have hlt : k < xs.length := by omega
      rw [List.drop_eq_getElem_cons hlt]
      have := hs k hlt
      simp only [fs]
      cases hp : f k xs[k] with
      | some r => rw [hp] at this; exact XZ this
      | none => rw [hp] at this; rw [YC this]; exact ih (k + 1) (by omega)
  have := key xs.length 0 (by omega)
  simpa using this
theorem fs_none {α ρ : Type} {f : Nat → α → Option ρ} : ∀ {l : List α} {k : Nat}, fs f k l = none ↔ ∀ i (h : i < l.length), f (k + i) l[i] = none := by
  intro l
  induction l with
  | nil => intro k; simp [fs]
  | cons x xs ih =>
    intro k
    cases h : f k x with
    | some r =>
      simp only [fs, h]
      constructor
      · intro h'; cases h'
      · intro h'; have := h' 0 (by simp); simp [h] at this
    | none =>
      simp only [fs, h, ih]
      constructor
      · intro h' i hi
        cases i with
        | zero => simpa using h
        | succ i => have := h' i (by simpa using hi); simpa [Nat.add_assoc, Nat.add_comm 1 i] using this
      · intro h' i hi
        have := h' (i + 1) (by simpa using hi)
        simpa [Nat.add_assoc, Nat.add_comm 1 i] using this
theorem Qxp {α ρ : Type} {f g : Nat → α → Option ρ} : ∀ {l : List α} {k : Nat}, (∀ i (h : i < l.length), f (k + i) l[i] = g (k + i) l[i]) → fs f k l = fs g k l := by
  intro l
  induction l with
  | nil => intro k _; rfl
  | cons x xs ih =>
    intro k h
    have h0 := h 0 (by simp)
    simp only [Nat.add_zero, List.getElem_cons_zero] at h0
    simp only [fs, h0]
    cases g k x with
    | some r => rfl
    | none => exact ih fun i hi => by have := h (i + 1) (by simpa using hi); simpa [Nat.add_assoc, Nat.add_comm 1 i] using this

/-! ### Errors -/
def JZ : List Int → Int
  | [] => 0
  | x :: xs => if x = 0 then JZ xs else x
theorem Qmb (l : List Int) (hl : l.length < 1073741824) : Y2 l = some (JZ l) := by
  unfold Y2
  rw [Ya l (fun _ x => if x = 0 then none else some x)]
  · have key : ∀ (l : List Int) k, (Xt (oi (fs (fun _ x => if x = 0 then none else some x) k l)) fun (_ : Unit) => some 0) = some (JZ l) := by
      intro l
      induction l with
      | nil => intro k; rfl
      | cons x xs ih =>
        intro k
        by_cases h : x = 0
        · simp [fs, JZ, h]; exact ih _
        · simp [fs, JZ, h, Xt, oi]
    simpa using key l 0
  · intro k hk
    unfold Qlj
    rw [Xm hk, XI hk, Xk k (by omega)]
    by_cases h : l[k] = 0 <;> simp [h, XS]
  · unfold Qlj
    rw [Xn]; rfl
theorem Y9 (b : Bool) (e : Int) : X2 b e = some (bif b then 0 else e) := by cases b <;> rfl
theorem JG (n lo hi : Int) : ZE n lo hi = some (decide (lo ≤ n) && decide (n ≤ hi)) := rfl
theorem Qbh (n lo hi : Int) : JB n lo hi = some (decide (lo ≤ n) && decide (n ≤ hi)) := rfl
theorem ZB (a b : Int) : Y2 [a, b] = some (if a = 0 then b else a) := by
  rw [Qmb _ (by simp)]; simp only [JZ]
  by_cases ha : a = 0 <;> by_cases hb : b = 0 <;> simp [ha, hb]
theorem Qxm (a b c : Int) : Y2 [a, b, c] = some (if a = 0 then (if b = 0 then c else b) else a) := by
  rw [Qmb _ (by simp)]; simp only [JZ]
  by_cases ha : a = 0 <;> by_cases hb : b = 0 <;> by_cases hc : c = 0 <;> simp [ha, hb, hc]

def Xy (m n : Int) : Bool := decide (-m ≤ n) && decide (n ≤ m)
theorem Qmf (n m : Int) (h : 0 ≤ m ∧ m ≤ 4611686018427387904) : Qca n m = some (Xy m n) := by
  unfold Qca
  rw [JG, Xa (by omega), show (0 : Int) - m = -m by omega]; rfl
theorem Qvd {n : Int} (h : -4611686018427387904 ≤ n ∧ n ≤ 4611686018427387904) : (if n < w64 (0 - n) then w64 (0 - n) else n) = (n.natAbs : Int) := by
  rw [Xa (by omega)]; split <;> omega
theorem QAe {n : Int} (h : -4611686018427387904 ≤ n ∧ n ≤ 4611686018427387904) : Qec n = some (n.natAbs : Int) := by
  unfold Qec; rw [Qvd h]
/-! ### Predicates over lists -/
def ixB {α : Type} (p : α → Bool) (l : List α) : Int := match fs (fun k x => if p x then some (k : Int) else none) 0 l with | some k => k | none => -1
theorem Qfs {α : Type} (p : α → Bool) (l : List α) : decide (0 ≤ ixB p l) = l.any p := by
  have key : ∀ (l : List α) (k : Nat), (match fs (fun k x => if p x then some (k : Int) else none) k l with | some k => decide (0 ≤ k) | none => false) = l.any p := by
    intro l
    induction l with
    | nil => intro k; rfl
    | cons x xs ih =>
      intro k
      cases h : p x with
      | true => simp [fs, h]
      | false => simp only [fs, h, List.any_cons, Bool.false_or]; exact ih _
  unfold ixB
  rw [← key l 0]
  cases fs (fun k x => if p x then some (k : Int) else none) 0 l with
  | some k => rfl
  | none => rfl
theorem Qfu {α : Type} (p : α → Bool) (l : List α) : (Xt (oi (fs (fun k x => if p x then some (k : Int) else none) 0 l)) fun (_ : Unit) => some (-1)) = some (ixB p l) := by
  unfold ixB
  cases fs (fun k x => if p x then some (k : Int) else none) 0 l <;> rfl
theorem Qft {b : Bool} {k : Nat} {e : Int} (he : e = ((k + 1 : Nat) : Int)) : (bif b then some (.inr (.inl (k : Int))) else some (.inl e) : Option (Int ⊕ (Int ⊕ Unit))) = XS (if b then some (k : Int) else none) k := by
  subst he; cases b <;> rfl

def Zf (n : Int) : Bool := !(decide (0 ≤ n) && decide (n ≤ 10000))
theorem Qug (l : List Int) (hl : l.length < 1073741824) : Qja l = some (l.any Zf) := by
  unfold Qja Qnz
  rw [Ya l (fun k x => if Zf x then some (k : Int) else none)]
  · simp only [Qq, Qfu, Qfs]
  · intro k hk
    unfold Qny
    rw [Xm hk, XI hk]
    simp only [cond_true, Qq, Qlb, JG]
    exact Qft (Xk k (by omega))
  · unfold Qny
    rw [Xn]; rfl
def JI (n : Int) : Bool := decide (n < 0)
theorem Quf (l : List Int) (hl : l.length < 1073741824) : Qiz l = some (l.any JI) := by
  unfold Qiz Qnx
  rw [Ya l (fun k x => if JI x then some (k : Int) else none)]
  · simp only [Qfu JI, Qq, Qfs]
  · intro k hk
    unfold Qnw
    rw [Xm hk, XI hk]
    simp only [cond_true, Qq, Qlr]
    exact Qft (Xk k (by omega))
  · unfold Qnw
    rw [Xn]; rfl
theorem Quh (l : List Int) (m : Int) (hm : 0 ≤ m ∧ m ≤ 4611686018427387904) (hl : l.length < 1073741824) : Qiy l m = some (l.any fun n => !Xy m n) := by
  unfold Qiy Qnv
  rw [Ya l (fun k x => if !Xy m x then some (k : Int) else none)]
  · simp only [Qq, Qfu (fun n => !Xy m n), Qfs]
  · intro k hk
    unfold Qnu
    rw [Xm hk, XI hk]
    simp only [cond_true, Qq, Qld, Qmf _ _ hm]
    exact Qft (Xk k (by omega))
  · unfold Qnu
    rw [Xn]; rfl
theorem Qey (l : List Int) (m : Int) (hm : 0 ≤ m ∧ m ≤ 4611686018427387904) (hl : l.length < 1073741824) : Qah l m = some (l.all (Xy m)) := by
  unfold Qah
  rw [Quh l m hm hl]
  simp only [Qq]
  congr 1
  rw [Bool.eq_iff_iff]; simp

/-! ### Plants -/
def YX (n m i : Nat) (row : List Int) : Option (LevitateMark × Int) :=
  if row.length ≠ n then some (⟨m, i⟩, 10) else if row.all (Xy 1000) then none else some (⟨m, i⟩, 2)
def Zm (n m : Nat) (rows : List (List Int)) : Option (LevitateMark × Int) :=
  if rows.length ≠ n then some (⟨m, 0⟩, 10) else fs (YX n m) 0 rows
def X1 (p : LevitatePlant) : LevitateMark × Int :=
  if ¬ (1 ≤ p.Den ∧ p.Den ≤ 1000) then (⟨0, 0⟩, 2) else if p.Noise.length = 0 then (⟨0, 0⟩, 10) else if 3 < p.Noise.length then (⟨0, 0⟩, 8) else
    if p.Noise.any Zf then (⟨0, 0⟩, 2) else if p.Maps.length = 0 then (⟨0, 0⟩, 10) else if 4 < p.Maps.length then (⟨0, 0⟩, 8) else
    match fs (Zm p.Noise.length) 0 p.Maps with | some r => r | none => (⟨0, 0⟩, 0)

structure Sh (p : LevitatePlant) : Prop where
  noise : p.Noise.length < 1073741824
  maps : p.Maps.length < 1073741824
  rows : ∀ m ∈ p.Maps, m.length < 1073741824
  row : ∀ m ∈ p.Maps, ∀ r ∈ m, r.length < 1073741824

theorem Y7 (a b : Nat) : (decide ((a : Int) = (b : Int))) = decide (a = b) := by rw [Bool.eq_iff_iff]; simp; omega

theorem Qxv (p : LevitatePlant) (h : Sh p) : Qgc p = some (X1 p) := by
  unfold Qgc
  rw [Qug _ h.noise]
  simp only [Qq, JG, Y9]
  rw [Qmb _ (by simp)]
  simp only [Qq, JZ, J1]
  have hloop : loop (Qgb p 1000) 0 = some (oi (fs (Zm p.Noise.length) 0 p.Maps)) := by
    refine Ya p.Maps _ (fun k hk => ?_) ?_
    · unfold Qgb
      rw [Xm hk, XI hk]
      simp only [cond_true, Qq, Y7]
      have hm := List.getElem_mem hk
      generalize hrows : p.Maps[k] = rows at *
      unfold Zm
      by_cases hn : rows.length = p.Noise.length
      · simp only [hn, decide_true, Bool.not_true, cond_false, ne_eq, not_true_eq_false, if_false]
        have hin : loop (Qga rows p 1000 (k : Int)) 0 = some (oi ((fs (YX p.Noise.length k) 0 rows).map fun r => (.inr (.inl r) : Int ⊕ ((LevitateMark × Int) ⊕ Unit)))) := by
          rw [Ya rows (fun i row => (YX p.Noise.length k i row).map fun r => (.inr (.inl r) : Int ⊕ ((LevitateMark × Int) ⊕ Unit)))]
          · congr 2
            have : ∀ (l : List (List Int)) j, fs (fun i row => (YX p.Noise.length k i row).map fun r => (.inr (.inl r) : Int ⊕ ((LevitateMark × Int) ⊕ Unit))) j l = (fs (YX p.Noise.length k) j l).map fun r => .inr (.inl r) := by
              intro l
              induction l with
              | nil => intro j; rfl
              | cons x xs ih =>
                intro j
                simp only [fs]
                cases YX p.Noise.length k j x with
                | some r => rfl
                | none => exact ih _
            exact this rows 0
          · intro i hi
            unfold Qga
            rw [Xm hi, XI hi]
            have hr := h.row _ hm _ (List.getElem_mem hi)
            simp only [cond_true, Qq, Y9, Qey _ 1000 (by decide) hr, ZB, Y7, Xk i (by have := h.rows _ hm; omega)]
            unfold YX
            by_cases h1 : rows[i].length = p.Noise.length
            · by_cases h2 : rows[i].all (Xy 1000) = true
              · simp [h1, h2, XS]
              · simp [h1, h2, XS]
            · simp [h1, XS]
          · unfold Qga
            rw [Xn]; rfl
        rw [hin]
        cases fs (YX p.Noise.length k) 0 rows with
        | some r => rfl
        | none => simp only [Qq, Option.map_none, oi, Xt, XS]; rw [Xk k (by have := h.maps; omega)]
      · simp [hn, XS]
    · unfold Qgb
      rw [Xn]; rfl
  rw [hloop]
  have e1 : (decide ((0 : Int) < (p.Noise.length : Int))) = !decide (p.Noise.length = 0) := by rw [Bool.eq_iff_iff, Bool.not_eq_true', decide_eq_true_iff, decide_eq_false_iff_not]; omega
  have e2 : (decide ((p.Noise.length : Int) ≤ 3)) = !decide (3 < p.Noise.length) := by rw [Bool.eq_iff_iff]; simp; omega
  have e3 : (decide ((0 : Int) < (p.Maps.length : Int))) = !decide (p.Maps.length = 0) := by rw [Bool.eq_iff_iff, Bool.not_eq_true', decide_eq_true_iff, decide_eq_false_iff_not]; omega
  have e4 : (decide ((p.Maps.length : Int) ≤ 4)) = !decide (4 < p.Maps.length) := by rw [Bool.eq_iff_iff]; simp; omega
  have e5 : (decide (1 ≤ p.Den) && decide (p.Den ≤ 1000)) = decide (1 ≤ p.Den ∧ p.Den ≤ 1000) := by rw [Bool.eq_iff_iff]; simp
  rw [e1, e2, e3, e4, e5]
  unfold X1
  by_cases h1 : 1 ≤ p.Den ∧ p.Den ≤ 1000 <;> by_cases h2 : p.Noise.length = 0 <;> by_cases h3 : 3 < p.Noise.length <;> cases h4 : p.Noise.any Zf <;> by_cases h5 : p.Maps.length = 0 <;> by_cases h6 : 4 < p.Maps.length <;>
    simp only [h1, h2, h3, h5, h6, decide_true, decide_false, cond_true, cond_false, Bool.not_true, Bool.not_false, if_true, if_false, not_true_eq_false, not_false_eq_true, Qq] <;>
    (cases fs (Zm p.Noise.length) 0 p.Maps <;> rfl)
end Go.Gw

end
section
set_option maxRecDepth 4096
set_option linter.unusedSimpArgs false
set_option linter.unusedVariables false
namespace Go.Gw
open Go

/-! ### Places and sums -/
def gi (l : List Int) (k : Nat) : Int := l.getD k 0
def gr (f : List (List Int)) (i : Nat) : List Int := f.getD i []
theorem Zl {l : List Int} {k : Nat} (h : k < l.length) : l[k] = gi l k := by simp [gi, h]
theorem ZQ {l : List (List Int)} {k : Nat} (h : k < l.length) : l[k] = gr l k := by simp [gr, h]
theorem XO {l : List Int} {k : Nat} (h : k < l.length) : idx l (k : Int) = some (gi l k) := by rw [XI h, Zl h]
theorem Zt {l : List (List Int)} {k : Nat} (h : k < l.length) : idx l (k : Int) = some (gr l k) := by rw [XI h, ZQ h]
theorem Qdo {l : List Int} {k : Nat} (h : k < l.length) : gi l k ∈ l := by rw [← Zl h]; exact List.getElem_mem h
theorem Qku {l : List (List Int)} {k : Nat} (h : k < l.length) : gr l k ∈ l := by rw [← ZQ h]; exact List.getElem_mem h
theorem Qhi {l : List Int} {x : Int} (h : x ∈ l) : ∃ k, k < l.length ∧ gi l k = x := by
  obtain ⟨k, hk, rfl⟩ := List.getElem_of_mem h; exact ⟨k, hk, (Zl hk).symm⟩
theorem Qro {a b : List Int} (hl : a.length = b.length) (h : ∀ k, k < a.length → gi a k = gi b k) : a = b := by
  apply List.ext_getElem hl
  intro k h1 h2
  rw [Zl h1, Zl h2]; exact h k h1
def Q0 (t : Nat → Int) : Nat → Int
  | 0 => 0
  | n + 1 => Q0 t n + t n
theorem Qau {t u : Nat → Int} : ∀ {n : Nat}, (∀ k, k < n → t k = u k) → Q0 t n = Q0 u n
  | 0, _ => rfl
  | n + 1, h => by simp only [Q0]; rw [Qau (fun k hk => h k (by omega)), h n (by omega)]
theorem Qod {t u : Nat → Int} : ∀ {n : Nat}, (∀ k, k < n → t k ≤ u k) → Q0 t n ≤ Q0 u n
  | 0, _ => Int.le_refl _
  | n + 1, h => by simp only [Q0]; have := Qod (n := n) (fun k hk => h k (by omega)); have := h n (by omega); omega
theorem Qof {t : Nat → Int} : ∀ {n : Nat}, (∀ k, k < n → 0 ≤ t k) → 0 ≤ Q0 t n
  | 0, _ => Int.le_refl _
  | n + 1, h => by simp only [Q0]; have := Qof (n := n) (fun k hk => h k (by omega)); have := h n (by omega); omega
theorem Qtc {t : Nat → Int} {B : Int} : ∀ {n : Nat}, (∀ k, k < n → t k ≤ B) → Q0 t n ≤ n * B
  | 0, _ => by simp [Q0]
  | n + 1, h => by
    simp only [Q0]
    have h1 := Qtc (n := n) (fun k hk => h k (by omega)); have h2 := h n (by omega)
    have : ((n + 1 : Nat) : Int) * B = n * B + B := by rw [Int.natCast_add, Int.add_mul]; simp
    omega
theorem Qjf (x : Int) : w64 x = (x + 9223372036854775808) % 18446744073709551616 - 9223372036854775808 := by
  have : w64 x = if x % 18446744073709551616 ≥ 9223372036854775808 then x % 18446744073709551616 - 18446744073709551616 else x % 18446744073709551616 := by
    simp [w64, IntKind.wrap, IntKind.bits, IntKind.signed]
  rw [this]; split <;> omega
theorem Qeq (a b : Int) : w64 (w64 a + b) = w64 (a + b) := by simp only [Qjf]; omega
theorem Jt (a b : Int) : w64 (a + w64 b) = w64 (a + b) := by simp only [Qjf]; omega
theorem Qhg {step : (Int × Int) → Option ((Int × Int) ⊕ Int)} (n : Nat) (t : Nat → Int) (hs : ∀ k, k < n → ∀ a, step (a, (k : Int)) = some (.inl (w64 (a + t k), ((k + 1 : Nat) : Int)))) (he : ∀ a, step (a, (n : Int)) = some (.inr a)) :
    loop step (0, 0) = some (w64 (Q0 t n)) := by
  have key : ∀ k, k ≤ n → loop step (0, 0) = loop step (w64 (Q0 t k), (k : Int)) := by
    intro k
    induction k with
    | zero => intro _; rfl
    | succ k ih => intro hk; rw [ih (by omega), YC (hs k (by omega) _), Qeq]; rfl
  rw [key n (Nat.le_refl _)]
  exact XZ (he _)

/-! ### Right plants -/
structure Rp (p : LevitatePlant) : Prop where
  den : 1 ≤ p.Den ∧ p.Den ≤ 1000
  n1 : 1 ≤ p.Noise.length
  n3 : p.Noise.length ≤ 3
  noise : ∀ x ∈ p.Noise, 0 ≤ x ∧ x ≤ 10000
  m1 : 1 ≤ p.Maps.length
  m4 : p.Maps.length ≤ 4
  sq : ∀ m ∈ p.Maps, m.length = p.Noise.length
  row : ∀ m ∈ p.Maps, ∀ r ∈ m, r.length = p.Noise.length
  ent : ∀ m ∈ p.Maps, ∀ r ∈ m, ∀ x ∈ r, -1000 ≤ x ∧ x ≤ 1000
theorem ZP {α ρ : Type} {f : Nat → α → Option ρ} {r : ρ} : ∀ {l : List α} {k : Nat}, fs f k l = some r → ∃ i, ∃ h : i < l.length, f (k + i) l[i] = some r := by
  intro l
  induction l with
  | nil => intro k h; cases h
  | cons x xs ih =>
    intro k h
    cases hx : f k x with
    | some r' => simp only [fs, hx] at h; cases h; exact ⟨0, by simp, by simpa using hx⟩
    | none =>
      simp only [fs, hx] at h
      obtain ⟨i, hi, h'⟩ := ih h
      exact ⟨i + 1, by simpa using hi, by simpa [Nat.add_assoc, Nat.add_comm 1 i] using h'⟩
theorem QEo {n m i : Nat} {row : List Int} {r : LevitateMark × Int} (h : YX n m i row = some r) : r.2 ≠ 0 := by
  unfold YX at h; split at h
  · cases h; simp
  · split at h
    · cases h
    · cases h; simp
theorem Qrs {n m : Nat} {rows : List (List Int)} {r : LevitateMark × Int} (h : Zm n m rows = some r) : r.2 ≠ 0 := by
  unfold Zm at h; split at h
  · cases h; simp
  · obtain ⟨i, hi, h'⟩ := ZP h; exact QEo h'
theorem Qmw (l : List Int) : l.any Zf = false ↔ ∀ x ∈ l, 0 ≤ x ∧ x ≤ 10000 := by
  rw [List.any_eq_false]; simp [Zf]
theorem Jq (m x : Int) : Xy m x = true ↔ -m ≤ x ∧ x ≤ m := by simp [Xy]
theorem ckP_right {p : LevitatePlant} : (X1 p).2 = 0 ↔ Rp p := by
  constructor
  · intro h
    unfold X1 at h
    by_cases h1 : 1 ≤ p.Den ∧ p.Den ≤ 1000
    · by_cases h2 : p.Noise.length = 0
      · simp [h1, h2] at h
      · by_cases h3 : 3 < p.Noise.length
        · simp only [h1, h2, h3, if_true, if_false, not_true_eq_false, and_self] at h; simp at h
        · cases h4 : p.Noise.any Zf with
          | true => simp only [h1, h2, h3, h4, if_true, if_false, not_true_eq_false, and_self] at h; simp at h
          | false =>
            by_cases h5 : p.Maps.length = 0
            · simp only [h1, h2, h3, h4, h5, if_true, if_false, not_true_eq_false, and_self] at h; simp at h
            · by_cases h6 : 4 < p.Maps.length
              · simp only [h1, h2, h3, h4, h5, h6, if_true, if_false, not_true_eq_false, and_self] at h; simp at h
              · simp only [h1, h2, h3, h4, h5, h6, if_true, if_false, not_true_eq_false, and_self] at h
                cases h7 : fs (Zm p.Noise.length) 0 p.Maps with
                | some r =>
                  simp only [h7] at h
                  obtain ⟨i, hi, h'⟩ := ZP h7
                  exact absurd h (Qrs h')
                | none =>
                  rw [fs_none] at h7
                  have hm : ∀ m ∈ p.Maps, ∃ i, Zm p.Noise.length i m = none := fun m hm => by
                    obtain ⟨i, hi, rfl⟩ := List.getElem_of_mem hm
                    exact ⟨_, h7 i hi⟩
                  have hm2 : ∀ m ∈ p.Maps, m.length = p.Noise.length ∧ ∀ r ∈ m, r.length = p.Noise.length ∧ r.all (Xy 1000) = true := fun m hm' => by
                    obtain ⟨i, hi⟩ := hm m hm'
                    unfold Zm at hi
                    split at hi
                    · cases hi
                    · rename_i hl
                      refine ⟨by simpa using hl, fun r hr => ?_⟩
                      rw [fs_none] at hi
                      obtain ⟨j, hj, rfl⟩ := List.getElem_of_mem hr
                      have := hi j hj
                      unfold YX at this
                      split at this
                      · cases this
                      · rename_i hrl
                        split at this
                        · rename_i ha; exact ⟨by simpa using hrl, ha⟩
                        · cases this
                  exact ⟨h1, by omega, by omega, (Qmw _).1 h4, by omega, by omega, fun m hm => (hm2 m hm).1, fun m hm r hr => ((hm2 m hm).2 r hr).1, fun m hm r hr x hx => (Jq 1000 x).1 (List.all_eq_true.1 ((hm2 m hm).2 r hr).2 x hx)⟩
    · rw [if_pos h1] at h; simp at h
  · intro h
    have e4 : fs (Zm p.Noise.length) 0 p.Maps = none := by
      rw [fs_none]
      intro i hi
      have hm := List.getElem_mem hi
      unfold Zm
      rw [if_neg (by simp [h.sq _ hm]), fs_none]
      intro j hj
      have hr := List.getElem_mem hj
      unfold YX
      rw [if_neg (by simp [h.row _ hm _ hr]), if_pos (List.all_eq_true.2 fun x hx => (Jq 1000 x).2 (h.ent _ hm _ hr x hx))]
    unfold X1
    rw [if_neg (by simp [h.den]), if_neg (by have := h.n1; omega), if_neg (by have := h.n3; omega), if_neg (by rw [Bool.not_eq_true]; exact (Qmw _).2 h.noise), if_neg (by have := h.m1; omega), if_neg (by have := h.m4; omega), e4]
theorem Rp.ck {p : LevitatePlant} (h : Rp p) : X1 p = (⟨0, 0⟩, 0) := by
  have h0 := ckP_right.2 h
  unfold X1 at h0 ⊢
  rw [if_neg (by simp [h.den]), if_neg (by have := h.n1; omega), if_neg (by have := h.n3; omega), if_neg (by rw [Bool.not_eq_true]; exact (Qmw _).2 h.noise), if_neg (by have := h.m1; omega), if_neg (by have := h.m4; omega)] at h0 ⊢
  cases h7 : fs (Zm p.Noise.length) 0 p.Maps with
  | some r => simp only [h7] at h0; obtain ⟨i, hi, h'⟩ := ZP h7; exact absurd h0 (Qrs h')
  | none => rfl
theorem Rp.sh {p : LevitatePlant} (h : Rp p) : Sh p :=
  ⟨by have := h.n3; omega, by have := h.m4; omega, fun m hm => by have := h.sq m hm; have := h.n3; omega, fun m hm r hr => by have := h.row m hm r hr; have := h.n3; omega⟩

theorem QDl (p : LevitatePlant) (h : Sh p) : Qib p = some (X1 p) := by
  unfold Qib
  rw [Qbh]
  have hn : loop (Qhx p) 0 = some (oi (fs (fun _ x => if Zf x then some ((⟨0, 0⟩, 2) : LevitateMark × Int) else none) 0 p.Noise)) := by
    refine Ya p.Noise _ (fun k hk => ?_) ?_
    · unfold Qhx
      rw [Xm hk, XI hk, Xk k (by have := h.noise; omega)]
      simp only [cond_true, Qq, Qbh]
      show (bif Zf p.Noise[k] then _ else _) = _
      cases Zf p.Noise[k] <;> rfl
    · unfold Qhx
      rw [Xn]; rfl
  have hloop : loop (Qia p) 0 = some (oi (fs (Zm p.Noise.length) 0 p.Maps)) := by
    refine Ya p.Maps _ (fun k hk => ?_) ?_
    · unfold Qia
      rw [Xm hk, XI hk]
      simp only [cond_true, Qq, Y7]
      have hm := List.getElem_mem hk
      unfold Zm
      by_cases hn : p.Maps[k].length = p.Noise.length
      · simp only [hn, decide_true, Bool.not_true, cond_false, ne_eq, not_true_eq_false, if_false]
        have hin : loop (Qhz p (k : Int)) 0 = some (oi ((fs (YX p.Noise.length k) 0 p.Maps[k]).map fun r => (.inr (.inl r) : Int ⊕ ((LevitateMark × Int) ⊕ Unit)))) := by
          rw [Ya p.Maps[k] (fun i row => (YX p.Noise.length k i row).map fun r => (.inr (.inl r) : Int ⊕ ((LevitateMark × Int) ⊕ Unit)))]
          · congr 2
            have : ∀ (l : List (List Int)) j, fs (fun i row => (YX p.Noise.length k i row).map fun r => (.inr (.inl r) : Int ⊕ ((LevitateMark × Int) ⊕ Unit))) j l = (fs (YX p.Noise.length k) j l).map fun r => .inr (.inl r) := by
              intro l
              induction l with
              | nil => intro j; rfl
              | cons x xs ih =>
                intro j
                simp only [fs]
                cases YX p.Noise.length k j x with
                | some r => rfl
                | none => exact ih _
            exact this p.Maps[k] 0
          · intro i hi
            unfold Qhz
            rw [XI hk, Qq, Xm hi, cond_true, Qq, XI hi, Qq]
            have hr := h.row _ hm _ (List.getElem_mem hi)
            generalize hrow : p.Maps[k][i] = row at *
            have h1 : loop (Qhy row (k : Int) (i : Int)) 0 = some (oi (fs (fun _ x => if Xy 1000 x then none else some ((.inr (.inl (.inr (.inl ((⟨k, i⟩, 2) : LevitateMark × Int))))) : Int ⊕ (((Int) ⊕ ((LevitateMark × Int) ⊕ (Unit))) ⊕ (Unit)))) 0 row)) := by
              refine Ya row _ (fun t ht => ?_) ?_
              · unfold Qhy
                rw [Xm ht, XI ht, Xk t (by omega)]
                simp only [cond_true, Qq, Qbh]
                show (bif !Xy 1000 row[t] then _ else _) = _
                cases Xy 1000 row[t] <;> rfl
              · unfold Qhy
                rw [Xn]; rfl
            have h2 : fs (fun _ x => if Xy 1000 x then none else some ((.inr (.inl (.inr (.inl ((⟨k, i⟩, 2) : LevitateMark × Int))))) : Int ⊕ (((Int) ⊕ ((LevitateMark × Int) ⊕ (Unit))) ⊕ (Unit)))) 0 row = if row.all (Xy 1000) then none else some (.inr (.inl (.inr (.inl (⟨k, i⟩, 2))))) := by
              have : ∀ (l : List Int) t, fs (fun _ x => if Xy 1000 x then none else some ((.inr (.inl (.inr (.inl ((⟨k, i⟩, 2) : LevitateMark × Int))))) : Int ⊕ (((Int) ⊕ ((LevitateMark × Int) ⊕ (Unit))) ⊕ (Unit)))) t l = if l.all (Xy 1000) then none else some (.inr (.inl (.inr (.inl (⟨k, i⟩, 2))))) := by
                intro l
                induction l with
                | nil => intro t; rfl
                | cons x xs ih =>
                  intro t
                  cases hx : Xy 1000 x with
                  | true => simp [fs, hx, ih]
                  | false => simp [fs, hx]
              exact this row 0
            simp only [Y7, h1, h2, Qq]
            rw [Xk i (by have := h.rows _ hm; omega)]
            unfold YX
            by_cases h3 : row.length = p.Noise.length
            · by_cases h4 : row.all (Xy 1000) = true
              · simp [h3, h4, XS, oi, Xt]
              · simp [h3, h4, XS, oi, Xt]
            · simp [h3, XS]
          · unfold Qhz
            rw [XI hk, Qq, Xn]; rfl
        rw [hin]
        cases fs (YX p.Noise.length k) 0 p.Maps[k] with
        | some r => rfl
        | none => simp only [Qq, Option.map_none, oi, Xt, XS]; rw [Xk k (by have := h.maps; omega)]
      · simp [hn, XS]
    · unfold Qia
      rw [Xn]; rfl
  have hn2 : fs (fun _ x => if Zf x then some ((⟨0, 0⟩, 2) : LevitateMark × Int) else none) 0 p.Noise = if p.Noise.any Zf then some (⟨0, 0⟩, 2) else none := by
    have : ∀ (l : List Int) t, fs (fun _ x => if Zf x then some ((⟨0, 0⟩, 2) : LevitateMark × Int) else none) t l = if l.any Zf then some (⟨0, 0⟩, 2) else none := by
      intro l
      induction l with
      | nil => intro t; rfl
      | cons x xs ih =>
        intro t
        cases hx : Zf x with
        | true => simp [fs, hx]
        | false => simp [fs, hx, ih]
    exact this p.Noise 0
  rw [hloop, hn, hn2]
  have e1 : (decide ((p.Noise.length : Int) = 0)) = decide (p.Noise.length = 0) := Y7 _ 0
  have e2 : (decide (3 < (p.Noise.length : Int))) = decide (3 < p.Noise.length) := by rw [Bool.eq_iff_iff, decide_eq_true_iff, decide_eq_true_iff]; omega
  have e3 : (decide ((p.Maps.length : Int) = 0)) = decide (p.Maps.length = 0) := Y7 _ 0
  have e4 : (decide (4 < (p.Maps.length : Int))) = decide (4 < p.Maps.length) := by rw [Bool.eq_iff_iff, decide_eq_true_iff, decide_eq_true_iff]; omega
  have e5 : (decide (1 ≤ p.Den) && decide (p.Den ≤ 1000)) = decide (1 ≤ p.Den ∧ p.Den ≤ 1000) := by rw [Bool.eq_iff_iff]; simp
  rw [e1, e2, e3, e4, e5]
  unfold X1
  by_cases h1 : 1 ≤ p.Den ∧ p.Den ≤ 1000 <;> by_cases h2 : p.Noise.length = 0 <;> by_cases h3 : 3 < p.Noise.length <;> cases h4 : p.Noise.any Zf <;> by_cases h5 : p.Maps.length = 0 <;> by_cases h6 : 4 < p.Maps.length <;>
    simp only [h1, h2, h3, h5, h6, decide_true, decide_false, cond_true, cond_false, Bool.not_true, Bool.not_false, if_true, if_false, not_true_eq_false, not_false_eq_true, Qq, oi, Xt, Bool.false_eq_true] <;>
    (cases fs (Zm p.Noise.length) 0 p.Maps <;> rfl)
theorem Qme (p : LevitatePlant) (h : Sh p) : Qbv p = some (⟨p⟩, (X1 p).2) := by
  unfold Qbv; rw [Qxv p h]; rfl

/-! ### States and boxes -/
def Ja (p : LevitatePlant) (x : List Int) : Int := if x.length ≠ p.Noise.length then 10 else if x.all (Xy 100000) then 0 else 2
def bxE (p : LevitatePlant) (x : List Int) : Int := if Ja p x ≠ 0 then Ja p x else if x.any JI then 2 else 0
theorem Qrq (p : LevitatePlant) (x : List Int) (hx : x.length < 1073741824) : Qbx ⟨p⟩ x = some (Ja p x) := by
  unfold Qbx
  simp only [Y9, Qq, J1, Qey x 100000 (by decide) hx, ZB, Y7]
  unfold Ja
  by_cases h : x.length = p.Noise.length <;> cases h2 : x.all (Xy 100000) <;> simp [h]
theorem Qye (p : LevitatePlant) (x : List Int) (hx : x.length < 1073741824) : Qgv ⟨p⟩ x = some (bxE p x) := by
  unfold Qgv
  simp only [Quf x hx, Qrq p x hx, Y9, Qq, ZB]
  unfold bxE
  by_cases h : Ja p x = 0 <;> cases h2 : x.any JI <;> simp [h]
def opB (p : LevitatePlant) (x : List Int) : Int := if (X1 p).2 ≠ 0 then (X1 p).2 else bxE p x
theorem QAa (p : LevitatePlant) (x : List Int) (h : Sh p) (hx : x.length < 1073741824) : Qgt p x = some (⟨p⟩, opB p x) := by
  unfold Qgt
  rw [Qme p h]
  simp only [Qq, Qye p x hx]
  unfold opB
  by_cases h1 : (X1 p).2 = 0 <;> simp [h1]
structure Bx (p : LevitatePlant) (x : List Int) : Prop where
  len : x.length = p.Noise.length
  ge : ∀ k, k < x.length → 0 ≤ gi x k
  le : ∀ k, k < x.length → gi x k ≤ 100000
theorem bxE_right {p : LevitatePlant} {x : List Int} : bxE p x = 0 ↔ Bx p x := by
  unfold bxE Ja
  constructor
  · intro h
    by_cases h1 : x.length = p.Noise.length
    · cases h2 : x.all (Xy 100000) with
      | false => simp [h1, h2] at h
      | true =>
        cases h3 : x.any JI with
        | true => simp [h1, h2, h3] at h
        | false =>
          rw [List.all_eq_true] at h2
          rw [List.any_eq_false] at h3
          exact ⟨h1, fun k hk => by have := h3 _ (Qdo hk); simp [JI] at this; omega, fun k hk => ((Jq _ _).1 (h2 _ (Qdo hk))).2⟩
    · simp [h1] at h
  · intro h
    have h2 : x.all (Xy 100000) = true := List.all_eq_true.2 fun y hy => by
      obtain ⟨k, hk, rfl⟩ := Qhi hy
      have := h.ge k hk; have := h.le k hk
      exact (Jq _ _).2 (by omega)
    have h3 : x.any JI = false := List.any_eq_false.2 fun y hy => by
      obtain ⟨k, hk, rfl⟩ := Qhi hy
      have := h.ge k hk
      simp [JI]; omega
    simp [h.len, h2, h3]
end Go.Gw

end
section
set_option maxRecDepth 4096
set_option linter.unusedSimpArgs false
set_option linter.unusedVariables false
namespace Go.Gw
open Go

def gm (p : LevitatePlant) (m : Nat) : List (List Int) := p.Maps.getD m []
theorem Qqp {p : LevitatePlant} {m : Nat} (h : m < p.Maps.length) : p.Maps[m] = gm p m := by simp [gm, h]
theorem Qfq {p : LevitatePlant} {m : Nat} (h : m < p.Maps.length) : idx p.Maps (m : Int) = some (gm p m) := by rw [XI h, Qqp h]
theorem J0 {p : LevitatePlant} {m : Nat} (h : m < p.Maps.length) : gm p m ∈ p.Maps := by rw [← Qqp h]; exact List.getElem_mem h
def ge (p : LevitatePlant) (m i k : Nat) : Int := gi (gr (gm p m) i) k
theorem Rp.row_len {p : LevitatePlant} (h : Rp p) {m i : Nat} (hm : m < p.Maps.length) (hi : i < p.Noise.length) : (gr (gm p m) i).length = p.Noise.length :=
  h.row _ (J0 hm) _ (Qku (by rw [h.sq _ (J0 hm)]; exact hi))
theorem Rp.ge_b {p : LevitatePlant} (h : Rp p) {m i k : Nat} (hm : m < p.Maps.length) (hi : i < p.Noise.length) (hk : k < p.Noise.length) : -1000 ≤ ge p m i k ∧ ge p m i k ≤ 1000 :=
  h.ent _ (J0 hm) _ (Qku (by rw [h.sq _ (J0 hm)]; exact hi)) _ (Qdo (by rw [h.row_len hm hi]; exact hk))
theorem Rp.noise_b {p : LevitatePlant} (h : Rp p) {i : Nat} (hi : i < p.Noise.length) : 0 ≤ gi p.Noise i ∧ gi p.Noise i ≤ 10000 := h.noise _ (Qdo hi)

def ZU (p : LevitatePlant) (m i : Nat) (box : List Int) : Int := Q0 (fun k => ((ge p m i k).natAbs : Int) * gi box k) p.Noise.length
def YF (p : LevitatePlant) (m i : Nat) (box : List Int) : Int := (ZU p m i box + p.Den - 1) / p.Den + gi p.Noise i
theorem QDu {p : LevitatePlant} (h : Rp p) {m i : Nat} (hm : m < p.Maps.length) (hi : i < p.Noise.length) {box : List Int} (hb : ∀ k, k < p.Noise.length → 0 ≤ gi box k ∧ gi box k ≤ 100000) : 0 ≤ ZU p m i box ∧ ZU p m i box ≤ 300000000 := by
  constructor
  · exact Qof fun k hk => Int.mul_nonneg (by omega) (hb k hk).1
  · have h1 : ZU p m i box ≤ (p.Noise.length : Int) * 100000000 := Qtc fun k hk => by
      have h2 := h.ge_b hm hi hk
      have h3 := hb k hk
      have : ((ge p m i k).natAbs : Int) * gi box k ≤ 1000 * 100000 := Int.mul_le_mul (by omega) h3.2 h3.1 (by omega)
      omega
    have := h.n3
    omega
theorem Qyf {n by_ : Int} (h0 : 0 ≤ n) (h1 : n ≤ 4000000000000000000) (h2 : 1 ≤ by_) (h3 : by_ ≤ 4000000000000000000) : Qai n by_ = some ((n + by_ - 1) / by_) := by
  unfold Qai
  have : decide (n < 0) = false := by simp; omega
  rw [this, cond_false, Xa (x := n + by_) (by omega), Xa (by omega), Qng (by omega), Int.tdiv_eq_ediv_of_nonneg (by omega)]
  have h4 : 0 ≤ (n + by_ - 1) / by_ := Int.ediv_nonneg (by omega) (by omega)
  have h5 : (n + by_ - 1) / by_ ≤ n + by_ - 1 := Int.ediv_le_self _ (by omega)
  rw [Qq, Xa (by omega)]
theorem Qru {p : LevitatePlant} (h : Rp p) {m i : Nat} (hm : m < p.Maps.length) (hi : i < p.Noise.length) {box : List Int} (hl : box.length = p.Noise.length) (hb : ∀ k, k < p.Noise.length → 0 ≤ gi box k ∧ gi box k ≤ 100000) :
    Qdz ⟨p⟩ (m : Int) (i : Int) box = some (YF p m i box) := by
  unfold Qdz
  have hmi : i < (gm p m).length := by rw [h.sq _ (J0 hm)]; exact hi
  rw [Qfq hm, Qq, Zt hmi, Qq]
  have hr := QDu h hm hi hb
  rw [Qhg (p.Noise.length) (fun k => ((ge p m i k).natAbs : Int) * gi box k)]
  · rw [Qq, XO hi, Qq]
    change Option.bind (Qai (w64 (ZU p m i box)) p.Den) _ = _
    have hn := h.noise_b hi
    have hd := h.den
    rw [Xa (by omega), Qyf hr.1 (by omega) hd.1 (by omega), Qq]
    have h4 : 0 ≤ (ZU p m i box + p.Den - 1) / p.Den := Int.ediv_nonneg (by omega) (by omega)
    have h5 : (ZU p m i box + p.Den - 1) / p.Den ≤ ZU p m i box + p.Den - 1 := Int.ediv_le_self _ (by omega)
    rw [Xa (by omega)]; rfl
  · intro k hk a
    unfold Qlt
    have hrl := h.row_len hm hi
    simp only [hrl, Xm hk, cond_true]
    rw [XO (by rw [hrl]; exact hk), Qq, XO (by omega), Qq]
    have hg := h.ge_b hm hi hk
    change Option.bind (Qec (ge p m i k)) _ = _
    rw [QAe (by omega), Qq, Jt, Xk k (by have := h.n3; omega)]
  · intro a
    unfold Qlt
    simp only [h.row_len hm hi, Xn]; rfl
theorem QDv {p : LevitatePlant} {m i : Nat} {a b : List Int} (hab : ∀ k, k < p.Noise.length → gi a k ≤ gi b k) : ZU p m i a ≤ ZU p m i b :=
  Qod fun k hk => Int.mul_le_mul_of_nonneg_left (hab k hk) (by omega)
theorem QAm {p : LevitatePlant} (h : Rp p) {m i : Nat} {a b : List Int} (hab : ∀ k, k < p.Noise.length → gi a k ≤ gi b k) : YF p m i a ≤ YF p m i b := by
  unfold YF
  have := QDv (m := m) (i := i) hab
  have : (ZU p m i a + p.Den - 1) / p.Den ≤ (ZU p m i b + p.Den - 1) / p.Den := Int.ediv_le_ediv (by have := h.den; omega) (by omega)
  omega

/-! ### The first row by which a box is left -/
def Qad (p : LevitatePlant) (box : List Int) (m : Nat) : Option (Nat × Nat) := fs (fun i b => if b < YF p m i box then some (m, i) else none) 0 box
def brk (p : LevitatePlant) (box : List Int) : Option (Nat × Nat) := fs (fun m _ => Qad p box m) 0 p.Maps
def Z0 : Option (Nat × Nat) → LevitateMark × Bool
  | some (m, i) => (⟨m, i⟩, true)
  | none => (⟨0, 0⟩, false)
theorem Qvy {p : LevitatePlant} {box : List Int} {m i : Nat} (h : brk p box = some (m, i)) : m < p.Maps.length ∧ i < box.length ∧ gi box i < YF p m i box := by
  obtain ⟨j, hj, h1⟩ := ZP h
  obtain ⟨k, hk, h2⟩ := ZP h1
  split at h2
  · rename_i hlt
    cases h2
    exact ⟨by omega, by omega, by rw [← Zl (by omega)]; simpa using hlt⟩
  · cases h2
theorem Qvx {p : LevitatePlant} {box : List Int} (h : brk p box = none) : ∀ m, m < p.Maps.length → ∀ i, i < box.length → YF p m i box ≤ gi box i := by
  intro m hm i hi
  unfold brk at h
  rw [fs_none] at h
  have h1 := h m hm
  unfold Qad at h1
  rw [fs_none] at h1
  have h2 := h1 i hi
  split at h2
  · cases h2
  · rename_i hlt
    rw [Zl hi] at hlt
    simpa using hlt
theorem J4 {α ρ σ : Type} (g : ρ → σ) (f : Nat → α → Option ρ) : ∀ (l : List α) (k : Nat), fs (fun i x => (f i x).map g) k l = (fs f k l).map g
  | [], _ => rfl
  | x :: xs, k => by
    simp only [fs]
    cases f k x with
    | some r => rfl
    | none => exact J4 g f xs (k + 1)
theorem Qpt {p : LevitatePlant} (h : Rp p) {box : List Int} (hl : box.length = p.Noise.length) (hb : ∀ k, k < p.Noise.length → 0 ≤ gi box k ∧ gi box k ≤ 100000) :
    Qdw ⟨p⟩ box = some (Z0 (brk p box)) := by
  unfold Qdw
  have hin : ∀ m, m < p.Maps.length → loop (Qgw box ⟨p⟩ (m : Int)) 0 = some (oi ((Qad p box m).map fun r => (.inr (.inl (Z0 (some r))) : Int ⊕ ((LevitateMark × Bool) ⊕ Unit)))) := by
    intro m hm
    rw [Ya box (fun i b => (if b < YF p m i box then some (m, i) else none).map fun r => (.inr (.inl (Z0 (some r))) : Int ⊕ ((LevitateMark × Bool) ⊕ Unit)))]
    · rw [J4]; rfl
    · intro k hk
      unfold Qgw
      rw [Xm hk, XI hk, cond_true, Qq, Qru h hm (by omega) hl hb, Qq, Xk k (by have := h.n3; omega)]
      by_cases hlt : box[k] < YF p m k box <;> simp [hlt, XS, Z0]
    · unfold Qgw
      rw [Xn]; rfl
  rw [Ya p.Maps (fun m _ => (Qad p box m).map fun r => Z0 (some r))]
  · rw [J4 (fun r => Z0 (some r)) (fun m _ => Qad p box m)]
    unfold brk
    cases fs (fun m _ => Qad p box m) 0 p.Maps <;> rfl
  · intro m hm
    unfold Qls
    rw [Xm hm, cond_true, hin m hm, Qq, Xk m (by have := h.m4; omega)]
    cases Qad p box m <;> rfl
  · unfold Qls
    rw [Xn]; rfl

/-! ### The least box -/
def Qct (p : LevitatePlant) (K : List Int) : Prop := ∀ m, m < p.Maps.length → ∀ i, i < p.Noise.length → YF p m i K ≤ gi K i
structure LbOk (p : LevitatePlant) (start b : List Int) : Prop where
  len : b.length = p.Noise.length
  from_ : ∀ k, k < p.Noise.length → gi start k ≤ gi b k
  le : ∀ k, k < p.Noise.length → gi b k ≤ 100000
  kept : Qct p b
  least : ∀ K, Qct p K → (∀ k, k < p.Noise.length → gi start k ≤ gi K k) → ∀ k, k < p.Noise.length → gi b k ≤ gi K k
def Qum (p : LevitatePlant) (start : List Int) : Prop := ∀ K, Qct p K → (∀ k, k < p.Noise.length → gi start k ≤ gi K k) → ¬ ∀ k, k < p.Noise.length → gi K k ≤ 100000
def LbR (p : LevitatePlant) (start : List Int) (r : List Int × Int) : Prop := (r.2 = 0 ∧ LbOk p start r.1) ∨ (r = ([], 24) ∧ Qum p start)
theorem Qbn {l : List Int} {i k : Nat} {v : Int} (hi : i < l.length) : gi (l.set i v) k = if i = k then v else gi l k := by
  unfold gi
  simp only [List.getD_eq_getElem?_getD, List.getElem?_set]
  by_cases h : i = k
  · subst h; simp [hi]
  · simp [h]
structure LbI (p : LevitatePlant) (start box : List Int) : Prop where
  len : box.length = p.Noise.length
  from_ : ∀ k, k < p.Noise.length → gi start k ≤ gi box k
  rng : ∀ k, k < p.Noise.length → 0 ≤ gi box k ∧ gi box k ≤ 100000
  least : ∀ K, Qct p K → (∀ k, k < p.Noise.length → gi start k ≤ gi K k) → ∀ k, k < p.Noise.length → gi box k ≤ gi K k
theorem Qtd {t u : Nat → Int} {j : Nat} : ∀ {n : Nat}, j < n → (∀ k, k < n → t k ≤ u k) → t j < u j → Q0 t n < Q0 u n
  | 0, h, _, _ => by omega
  | n + 1, h, hle, hlt => by
    simp only [Q0]
    by_cases hj : j = n
    · subst hj
      have := Qod (n := j) (fun k hk => hle k (by omega)); omega
    · have := Qtd (n := n) (by omega) (fun k hk => hle k (by omega)) hlt
      have := hle n (by omega); omega
theorem Qxw {p : LevitatePlant} (h : Rp p) {start : List Int} (hs : Bx p start) : Runs (Qbr p start) (LbR p start) := by
  unfold Qbr
  have hl : start.length < 1073741824 := by have := hs.len; have := h.n3; omega
  rw [QAa p start h.sh hl]
  have h0 : opB p start = 0 := by unfold opB; rw [h.ck, bxE_right.2 hs]; simp
  simp only [Qq, h0, decide_true, Bool.not_true, cond_false, Qnr]
  rw [Yh (by simp; omega), List.nil_append, Qq, Qq]
  have hI0 : LbI p start start := ⟨hs.len, fun _ _ => Int.le_refl _, fun k hk => ⟨hs.ge k (by rw [hs.len]; exact hk), hs.le k (by rw [hs.len]; exact hk)⟩, fun _ _ hK => hK⟩
  rw [Qpt h hI0.len hI0.rng, Qq]
  refine Runs.callR (R := fun o => match o with | .inl r => LbR p start r | .inr b => LbR p start (b, 0)) ?_ ?_
  · refine Runs.loop (fun s => LbI p start s.1 ∧ s.2 = ((Z0 (brk p s.1)).2, (Z0 (brk p s.1)).1.Map, (Z0 (brk p s.1)).1.Row)) (fun s => (Q0 (fun k => 100000 - gi s.1 k) p.Noise.length).toNat) ⟨hI0, rfl⟩ ?_
    rintro ⟨box, left, m, i⟩ ⟨hI, he⟩
    replace hI : LbI p start box := hI
    simp only [Prod.mk.injEq] at he
    obtain ⟨rfl, rfl, rfl⟩ := he
    unfold Qqx
    cases hb : brk p box with
    | none =>
      simp only [Z0, cond_false]
      refine Runs.some ?_
      refine .inl ⟨rfl, hI.len, hI.from_, fun k hk => (hI.rng k hk).2, fun m hm i hi => Qvx hb m hm i (by rw [hI.len]; exact hi), hI.least⟩
    | some mi =>
      obtain ⟨m, i⟩ := mi
      obtain ⟨hm, hi, hlt⟩ := Qvy hb
      have hi' : i < p.Noise.length := by rw [← hI.len]; exact hi
      simp only [Z0, cond_true]
      rw [Qru h hm hi' hI.len hI.rng, Qq, XO hi, Qq, Int.toNat_natCast, XO (by simpa using hi), Qbn hi, if_pos rfl, Qq]
      have hleast : ∀ K, Qct p K → (∀ k, k < p.Noise.length → gi start k ≤ gi K k) → YF p m i box ≤ gi K i := fun K hK hsK => Int.le_trans (QAm h (hI.least K hK hsK)) (hK m hm i hi')
      by_cases hbig : 100000 < YF p m i box
      · rw [show decide (100000 < YF p m i box) = true by simpa using hbig, cond_true]
        refine Runs.some ?_
        refine .inr ⟨rfl, fun K hK hsK hle => ?_⟩
        have := hleast K hK hsK
        have := hle i hi'
        omega
      · rw [show decide (100000 < YF p m i box) = false by simpa using hbig, cond_false]
        have hg : ∀ k, gi (box.set i (YF p m i box)) k = if i = k then YF p m i box else gi box k := fun k => Qbn hi
        have hI' : LbI p start (box.set i (YF p m i box)) := by
          refine ⟨by rw [List.length_set]; exact hI.len, fun k hk => ?_, fun k hk => ?_, fun K hK hsK k hk => ?_⟩
          · rw [hg]; split
            · rename_i e; subst e; have := hI.from_ i hi'; omega
            · exact hI.from_ k hk
          · rw [hg]; split
            · rename_i e; subst e; have := hI.rng i hi'; omega
            · exact hI.rng k hk
          · rw [hg]; split
            · rename_i e; subst e; exact hleast K hK hsK
            · exact hI.least K hK hsK k hk
        rw [Qpt h hI'.len hI'.rng, Qq]
        refine Runs.some ⟨⟨hI', rfl⟩, ?_⟩
        have h1 : Q0 (fun k => 100000 - gi (box.set i (YF p m i box)) k) p.Noise.length < Q0 (fun k => 100000 - gi box k) p.Noise.length := by
          refine Qtd hi' (fun k hk => ?_) ?_
          · rw [hg]; split
            · rename_i e; subst e; omega
            · omega
          · simp only [hg, if_pos]; omega
        have h2 : 0 ≤ Q0 (fun k => 100000 - gi (box.set i (YF p m i box)) k) p.Noise.length := Qof fun k hk => by have := hI'.rng k hk; omega
        show (Q0 (fun k => 100000 - gi (box.set i (YF p m i box)) k) p.Noise.length).toNat < (Q0 (fun k => 100000 - gi box k) p.Noise.length).toNat
        omega
  · intro o ho
    cases o with
    | inl r => exact Runs.jl ho
    | inr b => exact Runs.some ho
theorem LbR.eq {p : LevitatePlant} {start : List Int} {r s : List Int × Int} (hr : LbR p start r) (hs : LbR p start s) : r = s := by
  rcases hr with ⟨h1, h2⟩ | ⟨h1, h2⟩ <;> rcases hs with ⟨h3, h4⟩ | ⟨h3, h4⟩
  · refine Prod.ext (Qro (by rw [h2.len, h4.len]) fun k hk => ?_) (by rw [h1, h3])
    rw [h2.len] at hk
    exact Int.le_antisymm (h2.least _ h4.kept h4.from_ k hk) (h4.least _ h2.kept h2.from_ k hk)
  · exact absurd h2.le (h4 _ h2.kept h2.from_)
  · exact absurd h4.le (h2 _ h4.kept h4.from_)
  · rw [h1, h3]
end Go.Gw

end
section
set_option maxRecDepth 4096
set_option linter.unusedSimpArgs false
set_option linter.unusedVariables false
namespace Go.Gw
open Go

theorem Qet (x : Int) : IntKind.wrap .u64 x = x % 18446744073709551616 := by simp [IntKind.wrap, IntKind.bits, IntKind.signed]
def Q7 (x : Int) : Arr3_U64 := ⟨x % 18446744073709551616, x / 18446744073709551616 % 18446744073709551616, x / 340282366920938463463374607431768211456 % 18446744073709551616⟩
theorem Qon {x : Int} {a b c : Int} (h0 : x % 18446744073709551616 = a) (h1 : x / 18446744073709551616 % 18446744073709551616 = b) (h2 : x / 340282366920938463463374607431768211456 % 18446744073709551616 = c) : Q7 x = ⟨a, b, c⟩ := by
  subst h0 h1 h2; rfl
theorem QGs {x y : Int} (h : x % 6277101735386680763835789423207666416102355444464034512896 = y % 6277101735386680763835789423207666416102355444464034512896) : Q7 x = Q7 y := by
  unfold Q7; congr 1
  · omega
  · omega
  · omega
theorem QGt {x y : Int} (h : Q7 x = Q7 y) : x % 6277101735386680763835789423207666416102355444464034512896 = y % 6277101735386680763835789423207666416102355444464034512896 := by
  unfold Q7 at h
  simp only [Arr3_U64.mk.injEq] at h
  omega
theorem Qsx (x : Int) (k : Nat) (hk : k ≤ 64) : Zg .u64 x (k : Int) = some (x / 2 ^ k) := by
  unfold Zg
  rw [if_pos ⟨by omega, by simp [IntKind.bits]; omega⟩, Int.toNat_natCast, Int.fdiv_eq_ediv_of_nonneg _ (Int.le_of_lt (Int.pow_pos (by decide)))]
theorem Qiw (x : Int) (k : Nat) (hk : k ≤ 64) : Zg .i64 x (k : Int) = some (x / 2 ^ k) := by
  unfold Zg
  rw [if_pos ⟨by omega, by simp [IntKind.bits]; omega⟩, Int.toNat_natCast, Int.fdiv_eq_ediv_of_nonneg _ (Int.le_of_lt (Int.pow_pos (by decide)))]
theorem Zo {n : Int} (h : -9223372036854775808 ≤ n ∧ n ≤ 9223372036854775807) : Y3 n = some (Q7 n) := by
  unfold Y3
  rw [show (63 : Int) = ((63 : Nat) : Int) from rfl, Qiw n 63 (by omega), Qq, Qet, Qet]
  congr 1
  symm
  simp only [show ((2 : Int) ^ 63) = 9223372036854775808 by decide]
  have h1 : n / 340282366920938463463374607431768211456 = n / 9223372036854775808 := by omega
  have h2 : n / 18446744073709551616 = n / 9223372036854775808 := by omega
  refine Qon rfl ?_ ?_
  · rw [h2]
  · rw [h1]
theorem Qpp (x : Int) : JD (Q7 x) = some (decide (3138550867693340381917894711603833208051177722232017256448 ≤ x % 6277101735386680763835789423207666416102355444464034512896)) := by
  unfold JD
  rw [show (63 : Int) = ((63 : Nat) : Int) from rfl, Qsx _ 63 (by omega), Qq]
  congr 1
  rw [decide_eq_decide]
  simp only [Q7]
  omega
theorem Qcv {a b c : Int} (h0 : 0 ≤ a) (h1 : 0 ≤ b) (h2 : 0 ≤ c ∧ c ≤ 1) : X5 a b c = some ((a + b + c) % 18446744073709551616, (a + b + c) / 18446744073709551616) := by
  unfold X5; rw [if_pos ⟨h0, h1, h2⟩]
theorem ZS {σ β : Type} {step : σ → Option (σ ⊕ β)} {s s' : σ} {r : Option β} (h : step s = some (.inl s')) (h2 : loop step s' = r) : loop step s = r := by rw [YC h]; exact h2
theorem Qqb (x : Int) : x / 340282366920938463463374607431768211456 = x / 18446744073709551616 / 18446744073709551616 := by omega
theorem Qht (x y : Int) : Qee (Q7 x) (Q7 y) = some (Q7 (x + y)) := by
  unfold Qee
  have hl : loop (Qrm (Q7 x) (Q7 y)) (0, 0, 0, 0, 0) = some ((Q7 (x + y)).e0, (Q7 (x + y)).e1, (Q7 (x + y)).e2) := by
    simp only [Q7]
    generalize hx0 : x % 18446744073709551616 = x0
    generalize hx1 : x / 18446744073709551616 % 18446744073709551616 = x1
    generalize hx2 : x / 340282366920938463463374607431768211456 % 18446744073709551616 = x2
    generalize hy0 : y % 18446744073709551616 = y0
    generalize hy1 : y / 18446744073709551616 % 18446744073709551616 = y1
    generalize hy2 : y / 340282366920938463463374607431768211456 % 18446744073709551616 = y2
    have a0 : X5 x0 y0 0 = some ((x0 + y0 + 0) % 18446744073709551616, (x0 + y0 + 0) / 18446744073709551616) := Qcv (by omega) (by omega) (by omega)
    generalize hc0 : (x0 + y0 + 0) / 18446744073709551616 = c0 at a0
    have a1 : X5 x1 y1 c0 = some ((x1 + y1 + c0) % 18446744073709551616, (x1 + y1 + c0) / 18446744073709551616) := Qcv (by omega) (by omega) (by omega)
    generalize hc1 : (x1 + y1 + c0) / 18446744073709551616 = c1 at a1
    have a2 : X5 x2 y2 c1 = some ((x2 + y2 + c1) % 18446744073709551616, (x2 + y2 + c1) / 18446744073709551616) := Qcv (by omega) (by omega) (by omega)
    refine ZS (s' := (c0, 1, (x0 + y0 + 0) % 18446744073709551616, 0, 0)) ?_ (ZS (s' := (c1, 2, (x0 + y0 + 0) % 18446744073709551616, (x1 + y1 + c0) % 18446744073709551616, 0)) ?_ (ZS (s' := ((x2 + y2 + c1) / 18446744073709551616, 3, (x0 + y0 + 0) % 18446744073709551616, (x1 + y1 + c0) % 18446744073709551616, (x2 + y2 + c1) % 18446744073709551616)) ?_ ((XZ (o := ((x0 + y0 + 0) % 18446744073709551616, (x1 + y1 + c0) % 18446744073709551616, (x2 + y2 + c1) % 18446744073709551616)) rfl).trans ?_)))
    · show (Option.bind (X5 x0 y0 0) fun r => _) = _
      rw [a0]; rfl
    · show (Option.bind (X5 x1 y1 c0) fun r => _) = _
      rw [a1]; rfl
    · show (Option.bind (X5 x2 y2 c1) fun r => _) = _
      rw [a2]; rfl
    · have k1 : (x + y) / 18446744073709551616 = x / 18446744073709551616 + y / 18446744073709551616 + c0 := by omega
      have k2 : (x + y) / 18446744073709551616 / 18446744073709551616 = x / 18446744073709551616 / 18446744073709551616 + y / 18446744073709551616 / 18446744073709551616 + c1 := by rw [k1]; omega
      rw [Qqb] at hx2 hy2
      rw [Qqb (x + y), k2, k1]
      congr 2
      · omega
      · congr 1
        · omega
        · omega
  rw [hl]; rfl

theorem Qjs (x : Int) (h : 0 ≤ x ∧ x < 18446744073709551616) : Xl .u64 x 4294967295 = x % 4294967296 := by
  unfold Xl
  rw [Qet]
  have e1 : (BitVec.ofInt IntKind.u64.bits x &&& BitVec.ofInt IntKind.u64.bits 4294967295).toNat = x.toNat % 4294967296 := by
    rw [BitVec.toNat_and]
    have h1 : (BitVec.ofInt IntKind.u64.bits x).toNat = x.toNat := by
      rw [BitVec.toNat_ofInt]
      have : ((2 ^ IntKind.u64.bits : Nat) : Int) = 18446744073709551616 := by decide
      rw [this]; omega
    have h2 : (BitVec.ofInt IntKind.u64.bits 4294967295).toNat = 2 ^ 32 - 1 := by decide
    rw [h1, h2, Nat.and_two_pow_sub_one_eq_mod]
  rw [e1]; omega
theorem Z5 {a b m n : Int} (ha : 0 ≤ a ∧ a ≤ m) (hb : 0 ≤ b ∧ b ≤ n) : 0 ≤ a * b ∧ a * b ≤ m * n :=
  ⟨Int.mul_nonneg ha.1 hb.1, Int.mul_le_mul ha.2 hb.2 hb.1 (by omega)⟩
theorem QAj {x y : Int} (hx : 0 ≤ x ∧ x < 18446744073709551616) (hy : 0 ≤ y ∧ y < 18446744073709551616) : Z4 x y = some (x * y / 18446744073709551616, x * y % 18446744073709551616) := by
  unfold Z4
  simp only [show (32 : Int) = ((32 : Nat) : Int) from rfl, Qsx _ 32 (by omega), Qq, Qet, Qjs x hx, Qjs y hy]
  simp only [show ((2 : Int) ^ 32) = 4294967296 by decide]
  generalize hx1 : x / 4294967296 = x1
  generalize hx0 : x % 4294967296 = x0
  generalize hy1 : y / 4294967296 = y1
  generalize hy0 : y % 4294967296 = y0
  have e : x * y = (x1 * y1) * 18446744073709551616 + (x1 * y0 + x0 * y1) * 4294967296 + x0 * y0 := by
    have ex : x = x1 * 4294967296 + x0 := by omega
    have ey : y = y1 * 4294967296 + y0 := by omega
    rw [ex, ey]; grind
  have b00 := Z5 (a := x0) (b := y0) (m := 4294967295) (n := 4294967295) (by omega) (by omega)
  have b10 := Z5 (a := x1) (b := y0) (m := 4294967295) (n := 4294967295) (by omega) (by omega)
  have b01 := Z5 (a := x0) (b := y1) (m := 4294967295) (n := 4294967295) (by omega) (by omega)
  have b11 := Z5 (a := x1) (b := y1) (m := 4294967295) (n := 4294967295) (by omega) (by omega)
  rw [e]
  generalize x0 * y0 = p00 at *
  generalize x1 * y0 = p10 at *
  generalize x0 * y1 = p01 at *
  generalize x1 * y1 = p11 at *
  rw [Qjs _ (by omega)]
  congr 2
  omega
theorem Qcb {o a b v : Int} (ho : 0 ≤ o ∧ o < 18446744073709551616) (ha : 0 ≤ a ∧ a < 18446744073709551616) (hb : 0 ≤ b ∧ b < 18446744073709551616) (hv : 0 ≤ v ∧ v < 18446744073709551616) {β : Type} (f : Int → Int → Option β) :
    (Option.bind (Z4 a b) fun r12 => Option.bind (some o) fun el18 => Option.bind (X5 el18 r12.2 0) fun r20 => Option.bind (X5 r20.1 v 0) fun r23 =>
      Option.bind (some o) fun _ => f (IntKind.wrap .u64 ((IntKind.wrap .u64 (r12.1 + r20.2)) + r23.2)) r23.1) = f ((o + a * b + v) / 18446744073709551616) ((o + a * b + v) % 18446744073709551616) := by
  have hab := Z5 (a := a) (b := b) (m := 18446744073709551615) (n := 18446744073709551615) (by omega) (by omega)
  rw [QAj ha hb]
  generalize a * b = ab at *
  simp only [Qq]
  rw [Qcv (by omega) (by omega) (by omega)]
  simp only [Qq]
  rw [Qcv (by omega) (by omega) (by omega)]
  simp only [Qq, Qet]
  congr 1
  · omega
  · omega
theorem JN : w64 (0 + 0) = 0 ∧ w64 (0 + 1) = 1 ∧ w64 (1 + 1) = 2 ∧ w64 (2 + 1) = 3 ∧ w64 (0 + 2) = 2 ∧ w64 (0 + 3) = 3 ∧ w64 (1 + 0) = 1 ∧ w64 (1 + 2) = 3 ∧ w64 (2 + 0) = 2 := by decide
section
variable (a y0 y1 y2 v o0 o1 o2 : Int)
theorem QGc : Yu a ⟨y0, y1, y2⟩ 0 (v, 0, o0, o1, o2) = (Option.bind (Z4 a y0) fun r12 => Option.bind (some o0) fun el18 => Option.bind (X5 el18 r12.2 0) fun r20 => Option.bind (X5 r20.1 v 0) fun r23 =>
      Option.bind (some o0) fun _ => (fun v s => some (Sum.inl (v, 1, s, o1, o2))) (IntKind.wrap .u64 ((IntKind.wrap .u64 (r12.1 + r20.2)) + r23.2)) r23.1) := by
  simp only [Yu, JN]; rfl
theorem QGd : Yu a ⟨y0, y1, y2⟩ 0 (v, 1, o0, o1, o2) = (Option.bind (Z4 a y1) fun r12 => Option.bind (some o1) fun el18 => Option.bind (X5 el18 r12.2 0) fun r20 => Option.bind (X5 r20.1 v 0) fun r23 =>
      Option.bind (some o1) fun _ => (fun v s => some (Sum.inl (v, 2, o0, s, o2))) (IntKind.wrap .u64 ((IntKind.wrap .u64 (r12.1 + r20.2)) + r23.2)) r23.1) := by
  simp only [Yu, JN]; rfl
theorem QGe : Yu a ⟨y0, y1, y2⟩ 0 (v, 2, o0, o1, o2) = (Option.bind (Z4 a y2) fun r12 => Option.bind (some o2) fun el18 => Option.bind (X5 el18 r12.2 0) fun r20 => Option.bind (X5 r20.1 v 0) fun r23 =>
      Option.bind (some o2) fun _ => (fun v s => some (Sum.inl (v, 3, o0, o1, s))) (IntKind.wrap .u64 ((IntKind.wrap .u64 (r12.1 + r20.2)) + r23.2)) r23.1) := by
  simp only [Yu, JN]; rfl
theorem QGf : Yu a ⟨y0, y1, y2⟩ 0 (v, 3, o0, o1, o2) = some (.inr (o0, o1, o2)) := by
  simp only [Yu, JN]; rfl
theorem QGg : Yu a ⟨y0, y1, y2⟩ 1 (v, 0, o0, o1, o2) = (Option.bind (Z4 a y0) fun r12 => Option.bind (some o1) fun el18 => Option.bind (X5 el18 r12.2 0) fun r20 => Option.bind (X5 r20.1 v 0) fun r23 =>
      Option.bind (some o1) fun _ => (fun v s => some (Sum.inl (v, 1, o0, s, o2))) (IntKind.wrap .u64 ((IntKind.wrap .u64 (r12.1 + r20.2)) + r23.2)) r23.1) := by
  simp only [Yu, JN]; rfl
theorem QGh : Yu a ⟨y0, y1, y2⟩ 1 (v, 1, o0, o1, o2) = (Option.bind (Z4 a y1) fun r12 => Option.bind (some o2) fun el18 => Option.bind (X5 el18 r12.2 0) fun r20 => Option.bind (X5 r20.1 v 0) fun r23 =>
      Option.bind (some o2) fun _ => (fun v s => some (Sum.inl (v, 2, o0, o1, s))) (IntKind.wrap .u64 ((IntKind.wrap .u64 (r12.1 + r20.2)) + r23.2)) r23.1) := by
  simp only [Yu, JN]; rfl
theorem QGi : Yu a ⟨y0, y1, y2⟩ 1 (v, 2, o0, o1, o2) = some (.inr (o0, o1, o2)) := by
  simp only [Yu, JN]; rfl
theorem QGj : Yu a ⟨y0, y1, y2⟩ 2 (v, 0, o0, o1, o2) = (Option.bind (Z4 a y0) fun r12 => Option.bind (some o2) fun el18 => Option.bind (X5 el18 r12.2 0) fun r20 => Option.bind (X5 r20.1 v 0) fun r23 =>
      Option.bind (some o2) fun _ => (fun v s => some (Sum.inl (v, 1, o0, o1, s))) (IntKind.wrap .u64 ((IntKind.wrap .u64 (r12.1 + r20.2)) + r23.2)) r23.1) := by
  simp only [Yu, JN]; rfl
theorem QGk : Yu a ⟨y0, y1, y2⟩ 2 (v, 1, o0, o1, o2) = some (.inr (o0, o1, o2)) := by
  simp only [Yu, JN]; rfl
end
abbrev TSt := (Int × Int × Int × Int × Int) ⊕ (Int × Int × Int)
theorem Jr (x y : Int) : Y8 (Q7 x) (Q7 y) = some (Q7 (x * y)) := by
  unfold Y8
  obtain ⟨x0, hx0⟩ : ∃ x0, x % 18446744073709551616 = x0 := ⟨_, rfl⟩
  obtain ⟨x1, hx1⟩ : ∃ x1, x / 18446744073709551616 % 18446744073709551616 = x1 := ⟨_, rfl⟩
  obtain ⟨x2, hx2⟩ : ∃ x2, x / 340282366920938463463374607431768211456 % 18446744073709551616 = x2 := ⟨_, rfl⟩
  obtain ⟨y0, hy0⟩ : ∃ y0, y % 18446744073709551616 = y0 := ⟨_, rfl⟩
  obtain ⟨y1, hy1⟩ : ∃ y1, y / 18446744073709551616 % 18446744073709551616 = y1 := ⟨_, rfl⟩
  obtain ⟨y2, hy2⟩ : ∃ y2, y / 340282366920938463463374607431768211456 % 18446744073709551616 = y2 := ⟨_, rfl⟩
  have ex : Q7 x = ⟨x0, x1, x2⟩ := Qon hx0 hx1 hx2
  have ey : Q7 y = ⟨y0, y1, y2⟩ := Qon hy0 hy1 hy2
  have bx0 : 0 ≤ x0 ∧ x0 < 18446744073709551616 := by omega
  have bx1 : 0 ≤ x1 ∧ x1 < 18446744073709551616 := by omega
  have bx2 : 0 ≤ x2 ∧ x2 < 18446744073709551616 := by omega
  have by0 : 0 ≤ y0 ∧ y0 < 18446744073709551616 := by omega
  have by1 : 0 ≤ y1 ∧ y1 < 18446744073709551616 := by omega
  have by2 : 0 ≤ y2 ∧ y2 < 18446744073709551616 := by omega
  have Ex : x % 6277101735386680763835789423207666416102355444464034512896 = x0 + x1 * 18446744073709551616 + x2 * 340282366920938463463374607431768211456 := by omega
  have Ey : y % 6277101735386680763835789423207666416102355444464034512896 = y0 + y1 * 18446744073709551616 + y2 * 340282366920938463463374607431768211456 := by omega
  have z0 : (0 : Int) ≤ 0 ∧ (0 : Int) < 18446744073709551616 := by omega
  -- a row of the product
  have h00 := Z5 (a := x0) (b := y0) (m := 18446744073709551615) (n := 18446744073709551615) (by omega) (by omega)
  have h01 := Z5 (a := x0) (b := y1) (m := 18446744073709551615) (n := 18446744073709551615) (by omega) (by omega)
  have h02 := Z5 (a := x0) (b := y2) (m := 18446744073709551615) (n := 18446744073709551615) (by omega) (by omega)
  have h10 := Z5 (a := x1) (b := y0) (m := 18446744073709551615) (n := 18446744073709551615) (by omega) (by omega)
  have h11 := Z5 (a := x1) (b := y1) (m := 18446744073709551615) (n := 18446744073709551615) (by omega) (by omega)
  have h20 := Z5 (a := x2) (b := y0) (m := 18446744073709551615) (n := 18446744073709551615) (by omega) (by omega)
  have r0 : ∀ o0 o1 o2, 0 ≤ o0 ∧ o0 < 18446744073709551616 → 0 ≤ o1 ∧ o1 < 18446744073709551616 → 0 ≤ o2 ∧ o2 < 18446744073709551616 → loop (Yu x0 ⟨y0, y1, y2⟩ 0) (0, 0, o0, o1, o2) =
      some ((o0 + x0 * y0 + 0) % 18446744073709551616, (o1 + x0 * y1 + (o0 + x0 * y0 + 0) / 18446744073709551616) % 18446744073709551616, (o2 + x0 * y2 + (o1 + x0 * y1 + (o0 + x0 * y0 + 0) / 18446744073709551616) / 18446744073709551616) % 18446744073709551616) := by
    intro o0 o1 o2 b0 b1 b2
    refine ZS ((QGc ..).trans (Qcb b0 bx0 by0 (v := 0) z0 (fun v s => (some (Sum.inl (v, 1, s, o1, o2)) : Option TSt)))) ?_
    refine ZS ((QGd ..).trans (Qcb b1 bx0 by1 (by omega) (fun v s => (some (Sum.inl (v, 2, _, s, o2)) : Option TSt)))) ?_
    refine ZS ((QGe ..).trans (Qcb b2 bx0 by2 (by omega) (fun v s => (some (Sum.inl (v, 3, _, _, s)) : Option TSt)))) ?_
    exact XZ (QGf ..)
  have r1 : ∀ o0 o1 o2, 0 ≤ o0 ∧ o0 < 18446744073709551616 → 0 ≤ o1 ∧ o1 < 18446744073709551616 → 0 ≤ o2 ∧ o2 < 18446744073709551616 → loop (Yu x1 ⟨y0, y1, y2⟩ 1) (0, 0, o0, o1, o2) =
      some (o0, (o1 + x1 * y0 + 0) % 18446744073709551616, (o2 + x1 * y1 + (o1 + x1 * y0 + 0) / 18446744073709551616) % 18446744073709551616) := by
    intro o0 o1 o2 b0 b1 b2
    refine ZS ((QGg ..).trans (Qcb b1 bx1 by0 (v := 0) z0 (fun v s => (some (Sum.inl (v, 1, o0, s, o2)) : Option TSt)))) ?_
    refine ZS ((QGh ..).trans (Qcb b2 bx1 by1 (by omega) (fun v s => (some (Sum.inl (v, 2, o0, _, s)) : Option TSt)))) ?_
    exact XZ (QGi ..)
  have r2 : ∀ o0 o1 o2, 0 ≤ o0 ∧ o0 < 18446744073709551616 → 0 ≤ o1 ∧ o1 < 18446744073709551616 → 0 ≤ o2 ∧ o2 < 18446744073709551616 → loop (Yu x2 ⟨y0, y1, y2⟩ 2) (0, 0, o0, o1, o2) =
      some (o0, o1, (o2 + x2 * y0 + 0) % 18446744073709551616) := by
    intro o0 o1 o2 b0 b1 b2
    refine ZS ((QGj ..).trans (Qcb b2 bx2 by0 (v := 0) z0 (fun v s => (some (Sum.inl (v, 1, o0, o1, s)) : Option TSt)))) ?_
    exact XZ (QGk ..)
  rw [ex, ey]
  have hT : Q7 (x * y) = Q7 (x0 * y0 + (x0 * y1 + x1 * y0) * 18446744073709551616 + (x0 * y2 + x1 * y1 + x2 * y0) * 340282366920938463463374607431768211456) := by
    apply QGs
    rw [Int.mul_emod, Ex, Ey]
    rw [show (x0 + x1 * 18446744073709551616 + x2 * 340282366920938463463374607431768211456) * (y0 + y1 * 18446744073709551616 + y2 * 340282366920938463463374607431768211456) =
      (x0 * y0 + (x0 * y1 + x1 * y0) * 18446744073709551616 + (x0 * y2 + x1 * y1 + x2 * y0) * 340282366920938463463374607431768211456) + 6277101735386680763835789423207666416102355444464034512896 * (x1 * y2 + x2 * y1 + x2 * y2 * 18446744073709551616) by grind]
    rw [Int.add_mul_emod_self_left]
  rw [hT]
  have hl : loop (Qrn ⟨x0, x1, x2⟩ ⟨y0, y1, y2⟩) (0, 0, 0, 0) = some ((Q7 (x0 * y0 + (x0 * y1 + x1 * y0) * 18446744073709551616 + (x0 * y2 + x1 * y1 + x2 * y0) * 340282366920938463463374607431768211456)).e0, (Q7 (x0 * y0 + (x0 * y1 + x1 * y0) * 18446744073709551616 + (x0 * y2 + x1 * y1 + x2 * y0) * 340282366920938463463374607431768211456)).e1, (Q7 (x0 * y0 + (x0 * y1 + x1 * y0) * 18446744073709551616 + (x0 * y2 + x1 * y1 + x2 * y0) * 340282366920938463463374607431768211456)).e2) := by
    have z : (0 : Int) ≤ 0 ∧ (0 : Int) < 18446744073709551616 := by omega
    have q0 := r0 0 0 0 z z z
    generalize x0 * y0 = p00 at *
    generalize x0 * y1 = p01 at *
    generalize x0 * y2 = p02 at *
    generalize hc0 : (0 + p00 + 0) % 18446744073709551616 = c0 at q0
    generalize hv0 : (0 + p00 + 0) / 18446744073709551616 = v0 at q0
    generalize hc1 : (0 + p01 + v0) % 18446744073709551616 = c1 at q0
    generalize hv1 : (0 + p01 + v0) / 18446744073709551616 = v1 at q0
    generalize hc2 : (0 + p02 + v1) % 18446744073709551616 = c2 at q0
    have q1 := r1 c0 c1 c2 (by omega) (by omega) (by omega)
    generalize x1 * y0 = p10 at *
    generalize x1 * y1 = p11 at *
    generalize hd1 : (c1 + p10 + 0) % 18446744073709551616 = d1 at q1
    generalize hw1 : (c1 + p10 + 0) / 18446744073709551616 = w1 at q1
    generalize hd2 : (c2 + p11 + w1) % 18446744073709551616 = d2 at q1
    have q2 := r2 c0 d1 d2 (by omega) (by omega) (by omega)
    generalize x2 * y0 = p20 at *
    generalize he2 : (d2 + p20 + 0) % 18446744073709551616 = e2 at q2
    refine ZS (s' := (1, c0, c1, c2)) ?_ (ZS (s' := (2, c0, d1, d2)) ?_ (ZS (s' := (3, c0, d1, e2)) ?_ ((XZ (o := (c0, d1, e2)) rfl).trans ?_)))
    · show (Option.bind (loop (Yu x0 ⟨y0, y1, y2⟩ 0) (0, 0, 0, 0, 0)) fun _ => _) = _
      rw [q0]; rfl
    · show (Option.bind (loop (Yu x1 ⟨y0, y1, y2⟩ 1) (0, 0, c0, c1, c2)) fun _ => _) = _
      rw [q1]; rfl
    · show (Option.bind (loop (Yu x2 ⟨y0, y1, y2⟩ 2) (0, 0, c0, d1, d2)) fun _ => _) = _
      rw [q2]; rfl
    · simp only [Q7]
      congr 2
      · omega
      · congr 1
        · omega
        · omega
  rw [hl]; rfl
theorem Qag (x y : Int) : J3 (Q7 x) (Q7 y) = some (Q7 (x - y)) := by
  unfold J3
  rw [Zo (by decide), Qq, Jr, Qq, Qht, Qq]
  congr 2; omega
end Go.Gw

end
section
set_option maxRecDepth 4096
set_option linter.unusedSimpArgs false
set_option linter.unusedVariables false
namespace Go.Gw
open Go

def QZ (l : List Nat) : List Int := l.map fun k : Nat => (k : Int)
theorem ZG (l : List Nat) : (QZ l).length = l.length := by simp [QZ]
theorem Qfr {l : List Nat} {k : Nat} (h : k < l.length) : idx (QZ l) (k : Int) = some ((l[k] : Nat) : Int) := by
  rw [XI (by rw [ZG]; exact h)]; simp [QZ]
theorem Qmx (n : Nat) (hn : n ≤ 1073741824) : Qal (n : Int) = some (QZ (List.range n)) := by
  unfold Qal
  have key : ∀ k, k ≤ n → loop (Qbu (n : Int)) (([] : List Int), 0) = loop (Qbu (n : Int)) (QZ (List.range k), (k : Int)) := by
    intro k
    induction k with
    | zero => intro _; rfl
    | succ k ih =>
      intro hk
      rw [ih (by omega)]
      refine YC ?_
      unfold Qbu
      dsimp only
      rw [Xm (by omega), cond_true, Yh (by simp [ZG]; omega), Qq, Xk k (by omega)]
      simp [QZ, List.range_succ]
  rw [key n (Nat.le_refl _)]
  have : Qbu (n : Int) (QZ (List.range n), (n : Int)) = some (.inr (QZ (List.range n))) := by unfold Qbu; dsimp only; rw [Xn]; rfl
  rw [XZ this]; rfl

def g2 (f : List (List Int)) (i k : Nat) : Int := gi (gr f i) k
structure Sq (n : Nat) (f : List (List Int)) : Prop where
  len : f.length = n
  row : ∀ i, i < n → (gr f i).length = n
def Bd (n : Nat) (f : List (List Int)) (b : Int) : Prop := ∀ i k, i < n → k < n → -b ≤ g2 f i k ∧ g2 f i k ≤ b

/-! ### A loop that maps -/
theorem Qmd {α β : Type} {step : (List β × Int) → Option ((List β × Int) ⊕ List β)} (xs : List α) (g : α → β)
    (hs : ∀ k (hk : k < xs.length) (acc : List β), acc.length = k → step (acc, (k : Int)) = some (.inl (acc ++ [g xs[k]], ((k + 1 : Nat) : Int)))) (he : ∀ acc, step (acc, (xs.length : Int)) = some (.inr acc)) :
    loop step ([], 0) = some (xs.map g) := by
  have key : ∀ k, k ≤ xs.length → loop step ([], 0) = loop step ((xs.take k).map g, (k : Int)) := by
    intro k
    induction k with
    | zero => intro _; rfl
    | succ k ih =>
      intro hk
      rw [ih (by omega)]
      refine (YC (hs k (by omega) _ (by simp; omega))).trans ?_
      have e : (xs.take (k + 1)).map g = (xs.take k).map g ++ [g xs[k]] := by rw [List.take_succ_eq_append_getElem (by omega), List.map_append]; rfl
      rw [e]
  rw [key _ (Nat.le_refl _), List.take_length]
  exact XZ (he _)
theorem QGv (f : List (List Int)) (hl : f.length ≤ 1000) (hr : ∀ r ∈ f, r.length ≤ 1000 ∧ ∀ x ∈ r, -9223372036854775808 ≤ x ∧ x ≤ 9223372036854775807) : Qao f = some (f.map fun r => r.map Q7) := by
  unfold Qao
  rw [Qmd f (fun r => r.map Q7)]
  · rfl
  · intro k hk acc hacc
    unfold Qma
    dsimp only
    have hm := hr _ (List.getElem_mem hk)
    rw [Xm hk, cond_true, XI hk, Qq]
    rw [Qmd f[k] Q7]
    · rw [Qq, Yh (by simp [hacc]; omega), Qq, Xk k (by omega)]
    · intro j hj acc2 hacc2
      unfold Qlz
      dsimp only
      rw [Xm hj, cond_true, XI hj, Qq, Zo (hm.2 _ (List.getElem_mem hj)), Qq, Yh (by simp [hacc2]; omega), Qq, Xk j (by omega)]
    · intro acc2
      unfold Qlz
      dsimp only
      rw [Xn]; rfl
  · intro acc
    unfold Qma
    dsimp only
    rw [Xn]; rfl

/-! ### Minors -/
def wd (f : List (List Int)) : List (List Arr3_U64) := f.map fun r => r.map Q7
def Q2 (f : List (List Int)) : List Nat → Int
  | [] => 1
  | [a] => g2 f a a
  | [a, b] => g2 f a a * g2 f b b - g2 f a b * g2 f b a
  | [a, b, c] => g2 f a a * (g2 f b b * g2 f c c - g2 f b c * g2 f c b) + g2 f a b * (g2 f b c * g2 f c a - g2 f b a * g2 f c c) + g2 f a c * (g2 f b a * g2 f c b - g2 f b b * g2 f c a)
  | _ => 0
theorem Qxd {n : Nat} {f : List (List Int)} (h : Sq n f) {l : List Nat} (hl : ∀ x ∈ l, x < n) {i k : Nat} (hi : i < l.length) (hk : k < l.length) :
    X8 (i : Int) (k : Int) (wd f) (QZ l) = some (Q7 (g2 f l[i] l[k])) := by
  unfold X8
  have h1 := hl _ (List.getElem_mem hi)
  have h2 := hl _ (List.getElem_mem hk)
  have h3 : l[i] < f.length := by rw [h.len]; exact h1
  rw [Qfr hi, Qq]
  have e1 : idx (wd f) ((l[i] : Nat) : Int) = some ((gr f l[i]).map Q7) := by
    rw [XI (by simp [wd]; exact h3)]
    simp only [wd, List.getElem_map]; rw [ZQ h3]
  rw [e1, Qq, Qfr hk, Qq]
  have h4 : l[k] < (gr f l[i]).length := by rw [h.row _ h1]; exact h2
  rw [XI (by simpa using h4), Qq, List.getElem_map, Zl h4]; rfl
theorem Qhk {n : Nat} {f : List (List Int)} (h : Sq n f) {l : List Nat} (hl : ∀ x ∈ l, x < n) (h3 : l.length ≤ 3) : Qak (wd f) (QZ l) = some (Q7 (Q2 f l)) := by
  unfold Qak
  have E := fun i k (hi : i < l.length) (hk : k < l.length) => Qxd h hl hi hk
  match l, h3, E with
  | [], _, _ => simp only [QZ, List.map_nil, List.length_nil]; rw [show decide (((0 : Nat) : Int) = 0) = true from rfl, cond_true, Zo (by decide)]; rfl
  | [a], _, E =>
    have E00 := E 0 0 (by simp) (by simp)
    rw [show decide (((QZ [a]).length : Int) = 0) = false from rfl, cond_false, show decide (((QZ [a]).length : Int) = 1) = true from rfl, cond_true]
    change Option.bind (X8 ((0 : Nat) : Int) ((0 : Nat) : Int) _ _) _ = _
    rw [E00]; rfl
  | [a, b], _, E =>
    have E00 := E 0 0 (by simp) (by simp)
    have E01 := E 0 1 (by simp) (by simp)
    have E10 := E 1 0 (by simp) (by simp)
    have E11 := E 1 1 (by simp) (by simp)
    rw [show decide (((QZ [a, b]).length : Int) = 0) = false from rfl, cond_false, show decide (((QZ [a, b]).length : Int) = 1) = false from rfl, cond_false, show decide (((QZ [a, b]).length : Int) = 2) = true from rfl, cond_true]
    simp only [List.getElem_cons_zero, List.getElem_cons_succ] at E00 E01 E10 E11
    change X8 0 0 (wd f) (QZ [a, b]) = _ at E00
    change X8 0 1 (wd f) (QZ [a, b]) = _ at E01
    change X8 1 0 (wd f) (QZ [a, b]) = _ at E10
    change X8 1 1 (wd f) (QZ [a, b]) = _ at E11
    rw [E00, E01, E10, E11]
    simp only [Qq, Jr, Qag]
    rfl
  | [a, b, c], _, E =>
    have E00 : X8 0 0 (wd f) (QZ [a, b, c]) = _ := E 0 0 (by simp) (by simp)
    have E01 : X8 0 1 (wd f) (QZ [a, b, c]) = _ := E 0 1 (by simp) (by simp)
    have E02 : X8 0 2 (wd f) (QZ [a, b, c]) = _ := E 0 2 (by simp) (by simp)
    have E10 : X8 1 0 (wd f) (QZ [a, b, c]) = _ := E 1 0 (by simp) (by simp)
    have E11 : X8 1 1 (wd f) (QZ [a, b, c]) = _ := E 1 1 (by simp) (by simp)
    have E12 : X8 1 2 (wd f) (QZ [a, b, c]) = _ := E 1 2 (by simp) (by simp)
    have E20 : X8 2 0 (wd f) (QZ [a, b, c]) = _ := E 2 0 (by simp) (by simp)
    have E21 : X8 2 1 (wd f) (QZ [a, b, c]) = _ := E 2 1 (by simp) (by simp)
    have E22 : X8 2 2 (wd f) (QZ [a, b, c]) = _ := E 2 2 (by simp) (by simp)
    simp only [List.getElem_cons_zero, List.getElem_cons_succ] at E00 E01 E02 E10 E11 E12 E20 E21 E22
    rw [show decide (((QZ [a, b, c]).length : Int) = 0) = false from rfl, cond_false, show decide (((QZ [a, b, c]).length : Int) = 1) = false from rfl, cond_false, show decide (((QZ [a, b, c]).length : Int) = 2) = false from rfl, cond_false,
      Zo (by decide), Qq]
    have w1 : ∀ x, Arr3_U64.mk (Q7 x).e0 (Q7 x).e1 (Q7 x).e2 = Q7 x := fun x => rfl
    have t : (Int.tmod (w64 (0 + 1)) 3 = 1 ∧ Int.tmod (w64 (0 + 2)) 3 = 2) ∧ (Int.tmod (w64 (1 + 1)) 3 = 2 ∧ Int.tmod (w64 (1 + 2)) 3 = 0) ∧ (Int.tmod (w64 (2 + 1)) 3 = 0 ∧ Int.tmod (w64 (2 + 2)) 3 = 1) := by decide
    have s0 : J2 (wd f) (QZ [a, b, c]) (0, (Q7 0).e0, (Q7 0).e1, (Q7 0).e2) = some (.inl (1, (Q7 (0 + g2 f a a * (g2 f b b * g2 f c c - g2 f b c * g2 f c b))).e0, (Q7 (0 + g2 f a a * (g2 f b b * g2 f c c - g2 f b c * g2 f c b))).e1, (Q7 (0 + g2 f a a * (g2 f b b * g2 f c c - g2 f b c * g2 f c b))).e2)) := by
      simp only [J2, show decide ((0 : Int) < 3) = true from rfl, cond_true, t, E00, E11, E22, E12, E21, Qq, Jr, Qag, w1, Qht]; rfl
    have s1 : ∀ x, J2 (wd f) (QZ [a, b, c]) (1, (Q7 x).e0, (Q7 x).e1, (Q7 x).e2) = some (.inl (2, (Q7 (x + g2 f a b * (g2 f b c * g2 f c a - g2 f b a * g2 f c c))).e0, (Q7 (x + g2 f a b * (g2 f b c * g2 f c a - g2 f b a * g2 f c c))).e1, (Q7 (x + g2 f a b * (g2 f b c * g2 f c a - g2 f b a * g2 f c c))).e2)) := by
      intro x
      simp only [J2, show decide ((1 : Int) < 3) = true from rfl, cond_true, t, E01, E12, E20, E10, E22, Qq, Jr, Qag, w1, Qht]; rfl
    have s2 : ∀ x, J2 (wd f) (QZ [a, b, c]) (2, (Q7 x).e0, (Q7 x).e1, (Q7 x).e2) = some (.inl (3, (Q7 (x + g2 f a c * (g2 f b a * g2 f c b - g2 f b b * g2 f c a))).e0, (Q7 (x + g2 f a c * (g2 f b a * g2 f c b - g2 f b b * g2 f c a))).e1, (Q7 (x + g2 f a c * (g2 f b a * g2 f c b - g2 f b b * g2 f c a))).e2)) := by
      intro x
      simp only [J2, show decide ((2 : Int) < 3) = true from rfl, cond_true, t, E02, E10, E21, E11, E20, Qq, Jr, Qag, w1, Qht]; rfl
    have s3 : ∀ x, J2 (wd f) (QZ [a, b, c]) (3, (Q7 x).e0, (Q7 x).e1, (Q7 x).e2) = some (.inr ((Q7 x).e0, (Q7 x).e1, (Q7 x).e2)) := fun x => rfl
    rw [YC s0, YC (s1 _), YC (s2 _), XZ (s3 _)]
    simp only [Qq, w1, Q2]
    congr 2; omega

/-! ### Which forms are right -/
def ZC (f : List (List Int)) (i : Nat) (row : List Int) : Option Int := fs (fun k x => if Xy 10000 x then (if g2 f k i = x then none else some 3) else some 2) 0 row
def Y1 (f : List (List Int)) (r : List Int) : Bool := !decide (r.length = f.length)
def Zk (f : List (List Int)) : Int :=
  if f.length = 0 then 10 else if 3 < f.length then 8 else if f.any (Y1 f) then 10 else
    match fs (ZC f) 0 f with | some e => e | none => 0
theorem Qoa {f : List (List Int)} (h : f.any (Y1 f) = false) : Sq f.length f :=
  ⟨rfl, fun i hi => by rw [List.any_eq_false] at h; have := h _ (Qku hi); simpa [Y1] using this⟩
theorem Qzv (f : List (List Int)) (hl : f.length < 1073741824) : Qgn f = some (Zk f) := by
  unfold Qgn
  simp only [Y9, Qq, ZB]
  have hc : Qix f f = some (f.any (Y1 f)) := by
    unfold Qix Qnt
    rw [Ya f (fun k r => if Y1 f r then some (k : Int) else none)]
    · rw [Qq, Qfu (Y1 f), Qq, Qfs]
    · intro k hk
      unfold Qns
      rw [Xm hk, XI hk]
      simp only [cond_true, Qq, Qlk, Y7]
      exact Qft (Xk k (by omega))
    · unfold Qns
      rw [Xn]; rfl
  have e1 : (decide ((0 : Int) < (f.length : Int))) = !decide (f.length = 0) := by rw [Bool.eq_iff_iff, Bool.not_eq_true', decide_eq_true_iff, decide_eq_false_iff_not]; omega
  have e2 : (decide ((f.length : Int) ≤ 3)) = !decide (3 < f.length) := by rw [Bool.eq_iff_iff, Bool.not_eq_true', decide_eq_true_iff, decide_eq_false_iff_not]; omega
  rw [e1, e2, hc]
  unfold Zk
  by_cases h1 : f.length = 0
  · simp [h1]
  · by_cases h2 : 3 < f.length
    · simp [h1, h2]
    · cases h3 : f.any (Y1 f) with
      | true => simp [h1, h2]
      | false =>
        have hq := Qoa h3
        have hloop : loop (Qgm f) 0 = some (oi (fs (ZC f) 0 f)) := by
          refine Ya f _ (fun i hi => ?_) ?_
          · unfold Qgm
            rw [Xm hi, cond_true, XI hi, Qq]
            have hri : f[i].length = f.length := by rw [ZQ hi]; exact hq.row i hi
            have hin : loop (Qgl f[i] f (i : Int)) 0 = some (oi ((ZC f i f[i]).map fun r => (.inr (.inl r) : Int ⊕ (Int ⊕ Unit)))) := by
              rw [Ya f[i] (fun k x => (if Xy 10000 x then (if g2 f k i = x then none else some (3 : Int)) else some 2).map fun r => (.inr (.inl r) : Int ⊕ (Int ⊕ Unit)))]
              · rw [J4 (fun r => (.inr (.inl r) : Int ⊕ (Int ⊕ Unit)))]; rfl
              · intro k hk
                have hkf : k < f.length := by omega
                have hki : i < (gr f k).length := by rw [hq.row k hkf]; exact hi
                unfold Qgl
                rw [Xm hk, cond_true, XI hk, Qq, Zt hkf, Qq, XO hki, Qq]
                simp only [Qmf _ _ (show (0 : Int) ≤ 10000 ∧ (10000 : Int) ≤ 4611686018427387904 by decide), Qq, Y9, ZB]
                rw [Xk k (by omega)]
                show _ = XS (Option.map _ (if Xy 10000 f[i][k] then (if g2 f k i = f[i][k] then none else some 3) else some 2)) k
                unfold g2
                cases Xy 10000 f[i][k] <;> by_cases h5 : gi (gr f k) i = f[i][k] <;> simp [h5, XS]
              · unfold Qgl
                rw [Xn]; rfl
            rw [hin, Qq, Xk i (by omega)]
            cases ZC f i f[i] <;> rfl
          · unfold Qgm
            rw [Xn]; rfl
        simp only [h1, h2, hloop, decide_false, Bool.not_false, cond_true, if_true, if_false, decide_true, Bool.not_true, cond_false, Qq, Bool.false_eq_true]
        cases fs (ZC f) 0 f <;> rfl
structure Rf (f : List (List Int)) : Prop where
  n1 : 1 ≤ f.length
  n3 : f.length ≤ 3
  sq : Sq f.length f
  bd : Bd f.length f 10000
  sym : ∀ i k, i < f.length → k < f.length → g2 f k i = g2 f i k
theorem frmE_right {f : List (List Int)} : Zk f = 0 ↔ Rf f := by
  constructor
  · intro h
    unfold Zk at h
    by_cases h1 : f.length = 0
    · simp [h1] at h
    · by_cases h2 : 3 < f.length
      · simp [h1, h2] at h
      · cases h3 : f.any (Y1 f) with
        | true => simp [h1, h2, h3] at h
        | false =>
          have hq := Qoa h3
          simp only [h1, h2, h3, if_false, Bool.false_eq_true] at h
          cases h4 : fs (ZC f) 0 f with
          | some e =>
            simp only [h4] at h
            obtain ⟨i, hi, h5⟩ := ZP h4
            obtain ⟨k, hk, h6⟩ := ZP h5
            subst h
            split at h6
            · split at h6 <;> simp at h6
            · simp at h6
          | none =>
            rw [fs_none] at h4
            have key : ∀ i k, i < f.length → k < f.length → Xy 10000 (g2 f i k) = true ∧ g2 f k i = g2 f i k := by
              intro i k hi hk
              have h5 := h4 i hi
              unfold ZC at h5
              rw [fs_none] at h5
              have hr : f[i].length = f.length := by rw [ZQ hi]; exact hq.row i hi
              have h6 := h5 k (by omega)
              have e : f[i][k] = g2 f i k := by unfold g2; rw [Zl (by omega)]; congr 1; exact ZQ hi
              simp only [Nat.zero_add, e] at h6
              split at h6
              · rename_i hs
                split at h6
                · rename_i hy; exact ⟨hs, hy⟩
                · cases h6
              · cases h6
            exact ⟨by omega, by omega, hq, fun i k hi hk => (Jq _ _).1 (key i k hi hk).1, fun i k hi hk => (key i k hi hk).2⟩
  · intro h
    have h3 : f.any (Y1 f) = false := by
      rw [List.any_eq_false]
      intro r hr
      obtain ⟨i, hi, rfl⟩ := List.getElem_of_mem hr
      have := h.sq.row i hi
      rw [← ZQ hi] at this
      simp [Y1, this]
    have h4 : fs (ZC f) 0 f = none := by
      rw [fs_none]
      intro i hi
      unfold ZC
      rw [fs_none]
      intro k hk
      have hr : f[i].length = f.length := by rw [ZQ hi]; exact h.sq.row i hi
      have hk' : k < f.length := by omega
      have e : f[i][k] = g2 f i k := by unfold g2; rw [Zl (by omega)]; congr 1; exact ZQ hi
      simp only [Nat.zero_add, e]
      rw [if_pos ((Jq _ _).2 (h.bd i k hi hk')), if_pos (h.sym i k hi hk')]
    unfold Zk
    rw [if_neg (by have := h.n1; omega), if_neg (by have := h.n3; omega), h3, h4]; rfl
end Go.Gw

end
section
set_option maxRecDepth 4096
set_option linter.unusedSimpArgs false
set_option linter.unusedVariables false
namespace Go.Gw
open Go

theorem QGr (x q : Int) : w64 (x + 18446744073709551616 * q) = w64 x := by simp only [Qjf]; omega
theorem QGq (x : Int) : ∃ q, w64 x = x + 18446744073709551616 * q := ⟨(w64 x - x) / 18446744073709551616, by simp only [Qjf]; omega⟩
theorem Qom (a b : Int) : w64 (w64 a * b) = w64 (a * b) := by
  obtain ⟨q, hq⟩ := QGq a
  rw [hq, Int.add_mul, Int.mul_assoc, QGr]
theorem Qtn (a b : Int) : w64 (a * w64 b) = w64 (a * b) := by rw [Int.mul_comm, Qom, Int.mul_comm]
theorem JE {β : Type} {step : (List β × Int) → Option ((List β × Int) ⊕ List β)} (n : Nat) (g : Nat → β)
    (hs : ∀ k, k < n → ∀ acc : List β, acc.length = k → step (acc, (k : Int)) = some (.inl (acc ++ [g k], ((k + 1 : Nat) : Int)))) (he : ∀ acc, step (acc, (n : Int)) = some (.inr acc)) :
    loop step ([], 0) = some ((List.range n).map g) := by
  have key : ∀ k, k ≤ n → loop step ([], 0) = loop step ((List.range k).map g, (k : Int)) := by
    intro k
    induction k with
    | zero => intro _; rfl
    | succ k ih =>
      intro hk
      rw [ih (by omega)]
      refine (YC (hs k (by omega) _ (by simp))).trans ?_
      have e : (List.range (k + 1)).map g = (List.range k).map g ++ [g k] := by rw [List.range_succ, List.map_append]; rfl
      rw [e]
  rw [key _ (Nat.le_refl _)]
  exact XZ (he _)
def Zw (n : Nat) (g : Nat → Int) : List Int := (List.range n).map g
theorem Qaw (n : Nat) (g : Nat → Int) : (Zw n g).length = n := by simp [Zw]
theorem Qbo {n : Nat} {g : Nat → Int} {k : Nat} (h : k < n) : gi (Zw n g) k = g k := by rw [← Zl (by rw [Qaw]; exact h)]; simp [Zw]
def Qav (n : Nat) (g : Nat → Nat → Int) : List (List Int) := (List.range n).map fun i => Zw n (g i)
theorem Qtf (n : Nat) (g : Nat → Nat → Int) : (Qav n g).length = n := by simp [Qav]
theorem Qqq {n : Nat} {g : Nat → Nat → Int} {i : Nat} (h : i < n) : gr (Qav n g) i = Zw n (g i) := by rw [← ZQ (by rw [Qtf]; exact h)]; simp [Qav]
theorem Qdn {n : Nat} {g : Nat → Nat → Int} {i k : Nat} (hi : i < n) (hk : k < n) : g2 (Qav n g) i k = g i k := by unfold g2; rw [Qqq hi, Qbo hk]
theorem Qsy (n : Nat) (g : Nat → Nat → Int) : Sq n (Qav n g) := ⟨Qtf n g, fun i hi => by rw [Qqq hi, Qaw]⟩

/-! ### Values -/
theorem Qkg {a b : List Int} (h : a.length ≤ b.length) (hl : a.length < 1073741824) : Qbt a b = some (w64 (Q0 (fun k => gi a k * gi b k) a.length)) := by
  unfold Qbt
  rw [Qhg a.length (fun k => gi a k * gi b k)]
  · rfl
  · intro k hk acc
    unfold Qlg
    dsimp only
    rw [Xm hk, cond_true, XO hk, Qq, XO (by omega), Qq, Jt, Xk k (by omega)]
  · intro acc
    unfold Qlg
    dsimp only
    rw [Xn]; rfl
def Yp (n : Nat) (f : List (List Int)) (x : List Int) : Int := Q0 (fun i => gi x i * Q0 (fun k => g2 f i k * gi x k) n) n
theorem QGp {n : Nat} {f : List (List Int)} (h : Sq n f) {x : List Int} (hx : x.length = n) (hn : n < 1073741824) : Qhf f x = some (w64 (Yp n f x)) := by
  unfold Qhf
  rw [Qhg n (fun i => gi x i * Q0 (fun k => g2 f i k * gi x k) n)]
  · rfl
  · intro k hk acc
    unfold Qlx
    dsimp only
    have hr := h.row k hk
    rw [h.len, Xm hk, cond_true, Zt (by rw [h.len]; exact hk), Qq, XO (by omega), Qq, Qkg (by omega) (by omega), Qq, Jt, Xk k (by omega), hr]
    congr 3
    rw [← Jt, Qtn, Jt]; rfl
  · intro acc
    unfold Qlx
    dsimp only
    rw [h.len, Xn]; rfl

/-! ### The worst disturbance -/
theorem Qjr {q : Int} (h : 0 ≤ q ∧ q < 4611686018427387904) : Xl .i64 q 1 = q % 2 := by
  unfold Xl
  have e1 : (BitVec.ofInt IntKind.i64.bits q &&& BitVec.ofInt IntKind.i64.bits 1).toNat = q.toNat % 2 := by
    rw [BitVec.toNat_and]
    have h1 : (BitVec.ofInt IntKind.i64.bits q).toNat = q.toNat := by
      rw [BitVec.toNat_ofInt]
      have : ((2 ^ IntKind.i64.bits : Nat) : Int) = 18446744073709551616 := by decide
      rw [this]; omega
    have h2 : (BitVec.ofInt IntKind.i64.bits 1).toNat = 1 := by decide
    rw [h1, h2, Nat.and_one_is_mod]
  rw [e1]
  show w64 _ = _
  rw [Xa (by omega)]; omega
def Z8 (s i : Nat) : Int := 1 - 2 * ((s / 2 ^ i % 2 : Nat) : Int)
def xv (p : LevitatePlant) (s : Nat) : List Int := Zw p.Noise.length fun i => (gi p.Noise i + 1) * Z8 s i
def wst (v : Nat → Int) : Nat → Int
  | 0 => 0
  | s + 1 => if s = 0 ∨ wst v s < v s then v s else wst v s
theorem Qjg (v : Nat → Int) : ∀ N, 1 ≤ N → (∃ s, s < N ∧ wst v N = v s) ∧ ∀ s, s < N → v s ≤ wst v N
  | 0, h => by omega
  | N + 1, _ => by
    simp only [wst]
    by_cases h0 : N = 0
    · subst h0
      refine ⟨⟨0, by omega, by simp⟩, fun s hs => ?_⟩
      have : s = 0 := by omega
      subst this; simp
    · obtain ⟨⟨s, hs, he⟩, hm⟩ := Qjg v N (by omega)
      by_cases h1 : wst v N < v N
      · rw [if_pos (.inr h1)]
        refine ⟨⟨N, by omega, rfl⟩, fun t ht => ?_⟩
        by_cases htn : t = N
        · subst htn; omega
        · have := hm t (by omega); omega
      · rw [if_neg (by simp [h0, h1])]
        refine ⟨⟨s, by omega, he⟩, fun t ht => ?_⟩
        by_cases htn : t = N
        · subst htn; omega
        · exact hm t (by omega)
def Y5 (p : LevitatePlant) (f : List (List Int)) : Int := wst (fun s => Yp p.Noise.length f (xv p s)) (2 ^ p.Noise.length)
theorem XG {a b A B : Int} (ha : -A ≤ a ∧ a ≤ A) (hb : -B ≤ b ∧ b ≤ B) : -(A * B) ≤ a * b ∧ a * b ≤ A * B := by
  have hA : 0 ≤ A := by omega
  have hB : 0 ≤ B := by omega
  have h1 : (a * b).natAbs ≤ A.toNat * B.toNat := by rw [Int.natAbs_mul]; exact Nat.mul_le_mul (by omega) (by omega)
  have h2 : ((A.toNat * B.toNat : Nat) : Int) = A * B := by rw [Int.natCast_mul]; congr 1 <;> omega
  omega
theorem Qtb {t : Nat → Int} {B : Int} : ∀ {n : Nat}, (∀ k, k < n → -B ≤ t k ∧ t k ≤ B) → -(n * B) ≤ Q0 t n ∧ Q0 t n ≤ n * B
  | 0, _ => by simp [Q0]
  | n + 1, h => by
    simp only [Q0]
    have h1 := Qtb (n := n) (fun k hk => h k (by omega)); have h2 := h n (by omega)
    have : ((n + 1 : Nat) : Int) * B = n * B + B := by rw [Int.natCast_add, Int.add_mul]; simp
    omega
theorem Qen {t : Nat → Int} {B : Int} {n : Nat} (hn : n ≤ 3) (hB : 0 ≤ B) (h : ∀ k, k < n → -B ≤ t k ∧ t k ≤ B) : -(3 * B) ≤ Q0 t n ∧ Q0 t n ≤ 3 * B := by
  have h1 := Qtb h
  have h2 : (n : Int) * B ≤ 3 * B := Int.mul_le_mul_of_nonneg_right (by omega) hB
  omega
theorem Qol {n : Nat} {f : List (List Int)} (hn : n ≤ 3) (hf : Bd n f 10000) {x : List Int} {X : Int} (hX : 0 ≤ X) (hx : ∀ k, k < n → -X ≤ gi x k ∧ gi x k ≤ X) : -(3 * (X * (3 * (10000 * X)))) ≤ Yp n f x ∧ Yp n f x ≤ 3 * (X * (3 * (10000 * X))) := by
  have h1 : 0 ≤ 10000 * X := by omega
  refine Qen hn (Int.mul_nonneg hX (by omega)) fun i hi => XG (hx i hi) (Qen hn h1 fun k hk => XG (hf i k hi hk) (hx k hk))
theorem QFe (s i : Nat) : Z8 s i = 1 ∨ Z8 s i = -1 := by unfold Z8; omega
theorem Qop {p : LevitatePlant} (h : Rp p) (s : Nat) {k : Nat} (hk : k < p.Noise.length) : -10001 ≤ gi (xv p s) k ∧ gi (xv p s) k ≤ 10001 := by
  unfold xv
  rw [Qbo hk]
  have := h.noise_b hk
  rcases QFe s k with h1 | h1 <;> rw [h1] <;> omega
theorem QGx {p : LevitatePlant} (h : Rp p) {s : Nat} (hs : s < 8) : loop (Qhc ⟨p⟩ (s : Int)) ([], 0) = some (xv p s) := by
  refine JE p.Noise.length _ (fun k hk acc hacc => ?_) (fun acc => ?_)
  · unfold Qhc
    dsimp only
    have hb := h.noise_b hk
    have hk3 : k < 3 := by have := h.n3; omega
    rw [Xm hk, cond_true, XO hk, Qq, Qiw _ k (by omega), Qq]
    have e : (s : Int) / 2 ^ k = ((s / 2 ^ k : Nat) : Int) := by rw [Int.natCast_ediv, Int.natCast_pow]; rfl
    have hle : s / 2 ^ k ≤ s := Nat.div_le_self _ _
    have e3 : Z8 s k = 1 - 2 * ((s / 2 ^ k % 2 : Nat) : Int) := rfl
    rw [e, e3]
    generalize s / 2 ^ k = Q at *
    rw [Qjr (by omega), Yh (by simp [hacc]; omega), Qq, Xk k (by omega)]
    have e2 : w64 (w64 (gi p.Noise k + 1) * w64 (1 - w64 (2 * ((Q : Int) % 2)))) = (gi p.Noise k + 1) * (1 - 2 * ((Q % 2 : Nat) : Int)) := by
      rw [Xa (x := gi p.Noise k + 1) (by omega), Xa (x := 2 * _) (by omega), Xa (x := 1 - _) (by omega)]
      have e4 : 1 - 2 * ((Q : Int) % 2) = 1 - 2 * ((Q % 2 : Nat) : Int) := by omega
      rw [e4]
      have h1 : 1 - 2 * ((Q % 2 : Nat) : Int) = 1 ∨ 1 - 2 * ((Q % 2 : Nat) : Int) = -1 := by omega
      rcases h1 with h1 | h1 <;> rw [h1] <;> rw [Xa (by omega)]
    rw [e2]
  · unfold Qhc
    dsimp only
    rw [Xn]; rfl
theorem Qce {n : Nat} (h : n ≤ 3) : 2 ^ n ≤ 8 := by
  have : 2 ^ n ≤ 2 ^ 3 := Nat.pow_le_pow_right (by decide) h
  omega
theorem Qiv {n : Nat} (h : n ≤ 3) : ZW .i64 1 (n : Int) = some ((2 ^ n : Nat) : Int) := by
  match n, h with
  | 0, _ => rfl
  | 1, _ => rfl
  | 2, _ => rfl
  | 3, _ => rfl
theorem Qtt {p : LevitatePlant} (h : Rp p) {f : List (List Int)} (hf : Sq p.Noise.length f) (hb : Bd p.Noise.length f 10000) : Qam ⟨p⟩ f = some (Y5 p f) := by
  unfold Qam
  have h3 := h.n3
  have h8 := Qce h3
  rw [hf.len, Qiv h3, Qq]
  have vb : ∀ s, -(3 * (10001 * (3 * (10000 * 10001)))) ≤ Yp p.Noise.length f (xv p s) ∧ Yp p.Noise.length f (xv p s) ≤ 3 * (10001 * (3 * (10000 * 10001))) := fun s => Qol h3 hb (by decide) (fun k hk => Qop h s hk)
  have key : ∀ s, s ≤ 2 ^ p.Noise.length → loop (Qby f ⟨p⟩ ((2 ^ p.Noise.length : Nat) : Int)) (0, 0) = loop (Qby f ⟨p⟩ ((2 ^ p.Noise.length : Nat) : Int)) (wst (fun s => Yp p.Noise.length f (xv p s)) s, (s : Int)) := by
    intro s
    induction s with
    | zero => intro _; rfl
    | succ s ih =>
      intro hs
      rw [ih (by omega)]
      refine YC ?_
      unfold Qby
      dsimp only
      rw [Xm (by omega), cond_true, QGx h (by omega), Qq, QGp hf (by unfold xv; rw [Qaw]) (by omega), Qq, Xk s (by omega)]
      have := vb s
      rw [Xa (by omega)]
      have e0 : decide ((s : Int) = 0) = decide (s = 0) := Y7 _ 0
      rw [e0]
      simp only [wst]
      by_cases h1 : s = 0
      · simp [h1]
      · by_cases h2 : wst (fun s => Yp p.Noise.length f (xv p s)) s < Yp p.Noise.length f (xv p s)
        · simp [h1, h2]
        · simp [h1, h2]
  rw [key _ (Nat.le_refl _)]
  have : Qby f ⟨p⟩ ((2 ^ p.Noise.length : Nat) : Int) (wst (fun s => Yp p.Noise.length f (xv p s)) (2 ^ p.Noise.length), ((2 ^ p.Noise.length : Nat) : Int)) = some (.inr (wst (fun s => Yp p.Noise.length f (xv p s)) (2 ^ p.Noise.length))) := by
    unfold Qby
    dsimp only
    rw [Xn]; rfl
  rw [XZ this]; rfl
theorem Qts {p : LevitatePlant} (h : Rp p) {f : List (List Int)} (hb : Bd p.Noise.length f 10000) : -9002000000000000 ≤ Y5 p f ∧ Y5 p f ≤ 9002000000000000 := by
  obtain ⟨⟨s, _, he⟩, _⟩ := Qjg (fun s => Yp p.Noise.length f (xv p s)) (2 ^ p.Noise.length) (Nat.one_le_two_pow)
  unfold Y5
  rw [he]
  have := Qol h.n3 hb (X := 10001) (by decide) (fun k hk => Qop h s hk)
  omega

/-! ### Signs of minors -/
theorem Qfe {x : Int} (h : -3138550867693340381917894711603833208051177722232017256448 ≤ x ∧ x < 3138550867693340381917894711603833208051177722232017256448) : JD (Q7 x) = some (decide (x < 0)) := by
  rw [Qpp]; congr 1; rw [decide_eq_decide]; omega
theorem QGu {x : Int} (h : -3138550867693340381917894711603833208051177722232017256448 ≤ x ∧ x < 3138550867693340381917894711603833208051177722232017256448) : Q7 x = Q7 0 ↔ x = 0 := by
  constructor
  · intro e; have := QGt e; omega
  · rintro rfl; rfl
theorem Qpy {n : Nat} {f : List (List Int)} (hb : Bd n f 200000000000000) {l : List Nat} (hl : ∀ x ∈ l, x < n) : -50000000000000000000000000000000000000000000 ≤ Q2 f l ∧ Q2 f l ≤ 50000000000000000000000000000000000000000000 := by
  match l, hl with
  | [], _ => simp [Q2]
  | [a], hl => have := hb a a (hl a (by simp)) (hl a (by simp)); simp only [Q2]; omega
  | [a, b], hl =>
    have ha := hl a (by simp); have hb' := hl b (by simp)
    have h1 := XG (hb a a ha ha) (hb b b hb' hb')
    have h2 := XG (hb a b ha hb') (hb b a hb' ha)
    simp only [Q2]; omega
  | [a, b, c], hl =>
    have ha := hl a (by simp); have hb' := hl b (by simp); have hc := hl c (by simp)
    have q1 := XG (hb b b hb' hb') (hb c c hc hc)
    have q2 := XG (hb b c hb' hc) (hb c b hc hb')
    have q3 := XG (hb b c hb' hc) (hb c a hc ha)
    have q4 := XG (hb b a hb' ha) (hb c c hc hc)
    have q5 := XG (hb b a hb' ha) (hb c b hc hb')
    have q6 := XG (hb b b hb' hb') (hb c a hc ha)
    have t1 := XG (B := 80000000000000000000000000000) (hb a a ha ha) (b := g2 f b b * g2 f c c - g2 f b c * g2 f c b) (by omega)
    have t2 := XG (B := 80000000000000000000000000000) (hb a b ha hb') (b := g2 f b c * g2 f c a - g2 f b a * g2 f c c) (by omega)
    have t3 := XG (B := 80000000000000000000000000000) (hb a c ha hc) (b := g2 f b a * g2 f c b - g2 f b b * g2 f c a) (by omega)
    simp only [Q2]; omega
  | a :: b :: c :: d :: l, _ => simp [Q2]
def Yn (f : List (List Int)) : Bool := (List.range f.length).all fun k => decide (0 < Q2 f (List.range (k + 1)))
theorem Bd.mono {n : Nat} {f : List (List Int)} {a b : Int} (h : Bd n f a) (hab : a ≤ b) : Bd n f b := fun i k hi hk => by have := h i k hi hk; omega
theorem Qxo {α ρ : Type} (P : Nat → Bool) (r : ρ) : ∀ (l : List α) (k : Nat), fs (fun i (_ : α) => if P i then none else some r) k l = if (List.range l.length).all (fun j => P (k + j)) then none else some r := by
  intro l
  induction l with
  | nil => intro k; rfl
  | cons x xs ih =>
    intro k
    rw [List.length_cons, List.range_succ_eq_map]
    cases hp : P k with
    | true =>
      simp only [fs, hp, if_true, ih (k + 1), List.all_cons, Nat.add_zero, Bool.true_and, List.all_map]
      congr 2
      apply List.all_congr rfl
      intro j
      simp only [Function.comp]; rw [show k + 1 + j = k + (j + 1) by omega]
    | false => simp [fs, hp]
theorem Qoo {n : Nat} {f : List (List Int)} (h : Sq n f) (hn : n ≤ 3) (hb : Bd n f 200000000000000) : Qao f = some (wd f) := by
  refine QGv f (by rw [h.len]; omega) fun r hr => ?_
  obtain ⟨i, hi, rfl⟩ := List.getElem_of_mem hr
  rw [h.len] at hi
  have e : f[i] = gr f i := ZQ (by rw [h.len]; exact hi)
  rw [e]
  refine ⟨by rw [h.row i hi]; omega, fun x hx => ?_⟩
  obtain ⟨k, hk, rfl⟩ := Qhi hx
  rw [h.row i hi] at hk
  have := hb i k hi hk
  unfold g2 at this
  omega
theorem QDd {f : List (List Int)} (h : Sq f.length f) (hn : f.length ≤ 3) (hb : Bd f.length f 200000000000000) : Qhd f = some (Yn f) := by
  unfold Qhd
  rw [Qoo h hn hb, Qq, Ya f (fun k _ => if (fun k => decide (0 < Q2 f (List.range (k + 1)))) k then none else some false)]
  · rw [Qxo]
    unfold Yn
    simp only [Nat.zero_add]
    cases (List.range f.length).all fun k => decide (0 < Q2 f (List.range (k + 1))) <;> rfl
  · intro k hk
    unfold Qlv
    rw [Xm hk, cond_true, Xk k (by omega), Qmx _ (by omega), Qq]
    have hl : ∀ x ∈ List.range (k + 1), x < f.length := fun x hx => by rw [List.mem_range] at hx; omega
    have hd := Qpy hb hl
    rw [Qhk h hl (by simp; omega), Qq, Qfe (by omega), Qq]
    show _ = XS (if decide (0 < Q2 f (List.range (k + 1))) then none else some false) k
    generalize hD : Q2 f (List.range (k + 1)) = D at *
    by_cases h1 : D < 0
    · have : ¬ 0 < D := by omega
      simp [h1, this, XS]
    · by_cases h2 : D = 0
      · subst h2; simp [Zo, XS]
      · have h3 : 0 < D := by omega
        have h4 : ¬ Q7 D = Q7 0 := fun e => h2 ((QGu (by omega)).1 e)
        simp [h1, h3, h4, Zo, XS]
  · unfold Qlv
    rw [Xn]; rfl

/-! ### No value below 0 -/
def ZV : Nat → List (List Nat)
  | 1 => [[0]]
  | 2 => [[0], [1], [0, 1]]
  | 3 => [[0], [1], [0, 1], [2], [0, 2], [1, 2], [0, 1, 2]]
  | _ => []
def YL (n : Nat) (d : List (List Int)) : Bool := (ZV n).all fun l => decide (0 ≤ Q2 d l)
theorem Z1 {set : Int} {xs ys : List Int} (h : ∀ e ∈ xs, 0 ≤ e ∧ e ≤ 62) (h0 : 0 < xs.length) (h1 : xs.length ≤ 1073741824) (hy : xs.filter (fun x => !YM set x) = ys) : Qbi set xs = some ys := by
  unfold Qbi; rw [if_pos ⟨h, h0, h1⟩, hy]
theorem Qzx {α ρ : Type} {step : Int → Option (Int ⊕ (ρ ⊕ Unit))} (xs : List α) (f : Nat → α → Option ρ)
    (hs : ∀ k (hk : k < xs.length), step ((k + 1 : Nat) : Int) = XS (f k xs[k]) (k + 1))
    (he : step ((xs.length + 1 : Nat) : Int) = some (.inr (.inr ()))) : loop step 1 = some (oi (fs f 0 xs)) := by
  have key : ∀ j k, j + k = xs.length → loop step ((k + 1 : Nat) : Int) = some (oi (fs f k (xs.drop k))) := by
    intro j
    induction j with
    | zero =>
      intro k hk
      obtain rfl : k = xs.length := by omega
      rw [List.drop_length]
      exact XZ he
    | succ j ih =>
      intro k hk
      have hlt : k < xs.length := by omega
      rw [List.drop_eq_getElem_cons hlt]
      have := hs k hlt
      simp only [fs]
      cases hp : f k xs[k] with
      | some r => rw [hp] at this; exact XZ this
      | none => rw [hp] at this; rw [YC this]; exact ih (k + 1) (by omega)
  have := key xs.length 0 (by omega)
  simpa using this
theorem QFc {n : Nat} (h1 : 1 ≤ n) (h3 : n ≤ 3) : (ZV n).length + 1 = 2 ^ n ∧ ∀ k (hk : k < (ZV n).length), Qbi ((k + 1 : Nat) : Int) (QZ (List.range n)) = some (QZ (ZV n)[k]) ∧ (∀ x ∈ (ZV n)[k], x < n) ∧ (ZV n)[k].length ≤ 3 := by
  match n, h1, h3 with
  | 1, _, _ =>
    refine ⟨rfl, fun k hk => ?_⟩
    match k, hk with
    | 0, _ => exact ⟨Z1 (by decide) (by decide) (by decide) (show List.filter (fun x => !YM 1 x) (QZ (List.range 1)) = QZ [0] by decide), show ∀ x ∈ [0], x < 1 by decide, show [0].length ≤ 3 by decide⟩
  | 2, _, _ =>
    refine ⟨rfl, fun k hk => ?_⟩
    match k, hk with
    | 0, _ => exact ⟨Z1 (by decide) (by decide) (by decide) (show List.filter (fun x => !YM 1 x) (QZ (List.range 2)) = QZ [0] by decide), show ∀ x ∈ [0], x < 2 by decide, show [0].length ≤ 3 by decide⟩
    | 1, _ => exact ⟨Z1 (by decide) (by decide) (by decide) (show List.filter (fun x => !YM 2 x) (QZ (List.range 2)) = QZ [1] by decide), show ∀ x ∈ [1], x < 2 by decide, show [1].length ≤ 3 by decide⟩
    | 2, _ => exact ⟨Z1 (by decide) (by decide) (by decide) (show List.filter (fun x => !YM 3 x) (QZ (List.range 2)) = QZ [0, 1] by decide), show ∀ x ∈ [0, 1], x < 2 by decide, show [0, 1].length ≤ 3 by decide⟩
  | 3, _, _ =>
    refine ⟨rfl, fun k hk => ?_⟩
    match k, hk with
    | 0, _ => exact ⟨Z1 (by decide) (by decide) (by decide) (show List.filter (fun x => !YM 1 x) (QZ (List.range 3)) = QZ [0] by decide), show ∀ x ∈ [0], x < 3 by decide, show [0].length ≤ 3 by decide⟩
    | 1, _ => exact ⟨Z1 (by decide) (by decide) (by decide) (show List.filter (fun x => !YM 2 x) (QZ (List.range 3)) = QZ [1] by decide), show ∀ x ∈ [1], x < 3 by decide, show [1].length ≤ 3 by decide⟩
    | 2, _ => exact ⟨Z1 (by decide) (by decide) (by decide) (show List.filter (fun x => !YM 3 x) (QZ (List.range 3)) = QZ [0, 1] by decide), show ∀ x ∈ [0, 1], x < 3 by decide, show [0, 1].length ≤ 3 by decide⟩
    | 3, _ => exact ⟨Z1 (by decide) (by decide) (by decide) (show List.filter (fun x => !YM 4 x) (QZ (List.range 3)) = QZ [2] by decide), show ∀ x ∈ [2], x < 3 by decide, show [2].length ≤ 3 by decide⟩
    | 4, _ => exact ⟨Z1 (by decide) (by decide) (by decide) (show List.filter (fun x => !YM 5 x) (QZ (List.range 3)) = QZ [0, 2] by decide), show ∀ x ∈ [0, 2], x < 3 by decide, show [0, 2].length ≤ 3 by decide⟩
    | 5, _ => exact ⟨Z1 (by decide) (by decide) (by decide) (show List.filter (fun x => !YM 6 x) (QZ (List.range 3)) = QZ [1, 2] by decide), show ∀ x ∈ [1, 2], x < 3 by decide, show [1, 2].length ≤ 3 by decide⟩
    | 6, _ => exact ⟨Z1 (by decide) (by decide) (by decide) (show List.filter (fun x => !YM 7 x) (QZ (List.range 3)) = QZ [0, 1, 2] by decide), show ∀ x ∈ [0, 1, 2], x < 3 by decide, show [0, 1, 2].length ≤ 3 by decide⟩
theorem QAo {n : Nat} {d : List (List Int)} (h1 : 1 ≤ n) (h3 : n ≤ 3) (h : Sq n d) (hb : Bd n d 200000000000000) : Qgs d = some (YL n d) := by
  unfold Qgs
  have hs := QFc h1 h3
  rw [Qoo h h3 hb, Qq, Qzx (ZV n) (fun _ l => if 0 ≤ Q2 d l then none else some false)]
  · have : ∀ (l : List (List Nat)) t, fs (fun _ l => if 0 ≤ Q2 d l then none else some false) t l = if l.all (fun l => decide (0 ≤ Q2 d l)) then none else some false := by
      intro l
      induction l with
      | nil => intro t; rfl
      | cons y ys ih =>
        intro t
        by_cases hy : 0 ≤ Q2 d y
        · simp [fs, hy]; simpa using ih (t + 1)
        · simp [fs, hy]
    rw [this]
    unfold YL
    cases (ZV n).all fun l => decide (0 ≤ Q2 d l) <;> rfl
  · intro k hk
    obtain ⟨e1, e2, e3⟩ := hs.2 k hk
    unfold Qlo
    rw [h.len, Qiv h3, Qq, Xm (by omega), cond_true, Qmx n (by omega), Qq, e1, Qq, Qhk h e2 e3, Qq]
    have hd := Qpy hb e2
    rw [Qfe (by omega), Qq]
    have : w64 (((k + 1 : Nat) : Int) + 1) = ((k + 1 + 1 : Nat) : Int) := Xk (k + 1) (by have := Qce h3; omega)
    rw [this]
    generalize Q2 d (ZV n)[k] = D
    by_cases h0 : D < 0
    · have : ¬ 0 ≤ D := by omega
      simp [h0, this, XS]
    · have : 0 ≤ D := by omega
      simp [h0, this, XS]
  · unfold Qlo
    rw [h.len, Qiv h3, Qq, hs.1, Xn]; rfl
end Go.Gw

end
