/- Laws of the walk. Condition: each theorem says its own. -/
import Derived.Test.YtglaeocolbnpdaaGreatGwSort
import Derived.Test.YtglaeocolbnpdaaGreatGwFnZ
section
namespace Go.Gw
section
variable {α β γ σ ρ : Type}
def QCu (p : α → Bool) (res : Nat → α → ρ) : Nat → List α → ρ ⊕ Unit
  | _, [] => .inr ()
  | k, x :: xs => if p x then .inl (res k x) else QCu p res (k + 1) xs
def fld (f : Nat → γ → α → γ) : Nat → γ → List α → γ
  | _, a, [] => a
  | k, a, x :: xs => fld f (k + 1) (f k a x) xs
def rng (f : Nat → γ → γ) (a : γ) : Nat → γ
  | 0 => a
  | n + 1 => f n (rng f a n)
theorem Qxy {step : σ → Option (σ ⊕ β)} (n : Nat) (f : Nat → γ → γ) (S : γ → Nat → σ) (o : γ → β) (Inv : γ → Nat → Prop) (a0 : γ) (h0 : Inv a0 0)
    (hs : ∀ k, k < n → ∀ a, Inv a k → step (S a k) = some (.inl (S (f k a) (k + 1))) ∧ Inv (f k a) (k + 1))
    (he : ∀ a, Inv a n → step (S a n) = some (.inr (o a))) : loop step (S a0 0) = some (o (rng f a0 n)) ∧ Inv (rng f a0 n) n := by
  have key : ∀ k, k ≤ n → Inv (rng f a0 k) k ∧ loop step (S a0 0) = loop step (S (rng f a0 k) k) := by
    intro k
    induction k with
    | zero => intro _; exact ⟨h0, rfl⟩
    | succ k ih =>
      intro hk
      obtain ⟨h1, h2⟩ := ih (by omega)
      have := hs k (by omega) _ h1
      exact ⟨this.2, by rw [h2, Yg this.1]; rfl⟩
  obtain ⟨h1, h2⟩ := key n (Nat.le_refl _)
  exact ⟨by rw [h2]; exact XO (he _ h1), h1⟩
theorem Xe (k : Nat) (h : k < 4611686018427387904) : w64 ((k : Int) + 1) = ((k + 1 : Nat) : Int) := by rw [Xd (by omega)]; omega
theorem Xj {k n : Nat} (h : k < n) : decide ((k : Int) < (n : Int)) = true := by simp; omega
theorem Xl (n : Nat) : decide ((n : Int) < (n : Int)) = false := by simp
end
end Go.Gw

end
section
set_option maxRecDepth 4096
set_option linter.unusedSimpArgs false
set_option linter.unusedVariables false
namespace Go.Gw
open Go

def fs {α ρ : Type} (f : Nat → α → Option ρ) : Nat → List α → Option ρ
  | _, [] => none
  | k, x :: xs => match f k x with | some r => some r | none => fs f (k + 1) xs
def oi {ρ : Type} : Option ρ → ρ ⊕ Unit
  | some r => .inl r
  | none => .inr ()
def XD {ρ : Type} (o : Option ρ) (k : Nat) : Option (Int ⊕ (ρ ⊕ Unit)) := match o with | some r => some (.inr (.inl r)) | none => some (.inl ((k + 1 : Nat) : Int))
theorem XZ {α ρ : Type} {step : Int → Option (Int ⊕ (ρ ⊕ Unit))} (xs : List α) (f : Nat → α → Option ρ)
    (hs : ∀ k (hk : k < xs.length), step (k : Int) = XD (f k xs[k]) k)
    (he : step (xs.length : Int) = some (.inr (.inr ()))) : loop step 0 = some (oi (fs f 0 xs)) := by
  have key : ∀ j k, j + k = xs.length → loop step (k : Int) = some (oi (fs f k (xs.drop k))) := by
    intro j
    induction j with
    | zero =>
      intro k hk
      obtain rfl : k = xs.length := by omega
      rw [List.drop_length]
      exact XO he
    | succ j ih =>
      intro k hk
      have hlt : k < xs.length := by omega
      rw [List.drop_eq_getElem_cons hlt]
      have := hs k hlt
      simp only [fs]
      cases hp : f k xs[k] with
      | some r => rw [hp] at this; exact XO this
      | none => rw [hp] at this; rw [Yg this]; exact ih (k + 1) (by omega)
  have := key xs.length 0 (by omega)
  simpa using this
theorem fs_none {α ρ : Type} {f : Nat → α → Option ρ} : ∀ {l : List α} {k : Nat}, fs f k l = none ↔ ∀ i (h : i < l.length), f (k + i) l[i] = none := by
  intro l
  induction l with
  | nil => intro k; simp [fs]
  | cons x xs ih =>
    intro k
    cases h : f k x with
    | some r =>
      simp only [fs, h]
      constructor
      · intro h'; cases h'
      · intro h'; have := h' 0 (by simp); simp [h] at this
    | none =>
      simp only [fs, h, ih]
      constructor
      · intro h' i hi
        cases i with
        | zero => simpa using h
        | succ i => have := h' i (by simpa using hi); simpa [Nat.add_assoc, Nat.add_comm 1 i] using this
      · intro h' i hi
        have := h' (i + 1) (by simpa using hi)
        simpa [Nat.add_assoc, Nat.add_comm 1 i] using this
theorem Qvo {α ρ : Type} {f g : Nat → α → Option ρ} : ∀ {l : List α} {k : Nat}, (∀ i (h : i < l.length), f (k + i) l[i] = g (k + i) l[i]) → fs f k l = fs g k l := by
  intro l
  induction l with
  | nil => intro k _; rfl
  | cons x xs ih =>
    intro k h
    have h0 := h 0 (by simp)
    simp only [Nat.add_zero, List.getElem_cons_zero] at h0
    simp only [fs, h0]
    cases g k x with
    | some r => rfl
    | none => exact ih fun i hi => by have := h (i + 1) (by simpa using hi); simpa [Nat.add_assoc, Nat.add_comm 1 i] using this

/-! ### Errors -/
def Jq : List Int → Int
  | [] => 0
  | x :: xs => if x = 0 then Jq xs else x
theorem Qki (l : List Int) (hl : l.length < 1073741824) : YE l = some (Jq l) := by
  unfold YE
  rw [XZ l (fun _ x => if x = 0 then none else some x)]
  · have key : ∀ (l : List Int) k, (Xk (oi (fs (fun _ x => if x = 0 then none else some x) k l)) fun (_ : Unit) => some 0) = some (Jq l) := by
      intro l
      induction l with
      | nil => intro k; rfl
      | cons x xs ih =>
        intro k
        by_cases h : x = 0
        · simp [fs, Jq, h]; exact ih _
        · simp [fs, Jq, h, Xk, oi]
    simpa using key l 0
  · intro k hk
    unfold Qjr
    rw [Xj hk, Xy hk, Xe k (by omega)]
    by_cases h : l[k] = 0 <;> simp [h, XD]
  · unfold Qjr
    rw [Xl]; rfl
theorem YS (b : Bool) (e : Int) : XQ b e = some (bif b then 0 else e) := by cases b <;> rfl
theorem Qat (n lo hi : Int) : Zo n lo hi = some (decide (lo ≤ n) && decide (n ≤ hi)) := rfl
theorem Qby (n lo hi : Int) : JD n lo hi = some (decide (lo ≤ n) && decide (n ≤ hi)) := rfl
theorem ZS (a b : Int) : YE [a, b] = some (if a = 0 then b else a) := by
  rw [Qki _ (by simp)]; simp only [Jq]
  by_cases ha : a = 0 <;> by_cases hb : b = 0 <;> simp [ha, hb]
theorem Qnu (a b c : Int) : YE [a, b, c] = some (if a = 0 then (if b = 0 then c else b) else a) := by
  rw [Qki _ (by simp)]; simp only [Jq]
  by_cases ha : a = 0 <;> by_cases hb : b = 0 <;> by_cases hc : c = 0 <;> simp [ha, hb, hc]

def Xh (m n : Int) : Bool := decide (-m ≤ n) && decide (n ≤ m)
theorem Qkn (n m : Int) (h : 0 ≤ m ∧ m ≤ 4611686018427387904) : Qap n m = some (Xh m n) := by
  unfold Qap
  rw [Qat, Xd (by omega), show (0 : Int) - m = -m by omega]; rfl
theorem Qti {n : Int} (h : -4611686018427387904 ≤ n ∧ n ≤ 4611686018427387904) : (if n < w64 (0 - n) then w64 (0 - n) else n) = (n.natAbs : Int) := by
  rw [Xd (by omega)]; split <;> omega
theorem Qyd {n : Int} (h : -4611686018427387904 ≤ n ∧ n ≤ 4611686018427387904) : Qcr n = some (n.natAbs : Int) := by
  unfold Qcr; rw [Qti h]
/-! ### Predicates over lists -/
def ixB {α : Type} (p : α → Bool) (l : List α) : Int := match fs (fun k x => if p x then some (k : Int) else none) 0 l with | some k => k | none => -1
theorem Qep {α : Type} (p : α → Bool) (l : List α) : decide (0 ≤ ixB p l) = l.any p := by
  have key : ∀ (l : List α) (k : Nat), (match fs (fun k x => if p x then some (k : Int) else none) k l with | some k => decide (0 ≤ k) | none => false) = l.any p := by
    intro l
    induction l with
    | nil => intro k; rfl
    | cons x xs ih =>
      intro k
      cases h : p x with
      | true => simp [fs, h]
      | false => simp only [fs, h, List.any_cons, Bool.false_or]; exact ih _
  unfold ixB
  rw [← key l 0]
  cases fs (fun k x => if p x then some (k : Int) else none) 0 l with
  | some k => rfl
  | none => rfl
theorem Qer {α : Type} (p : α → Bool) (l : List α) : (Xk (oi (fs (fun k x => if p x then some (k : Int) else none) 0 l)) fun (_ : Unit) => some (-1)) = some (ixB p l) := by
  unfold ixB
  cases fs (fun k x => if p x then some (k : Int) else none) 0 l <;> rfl
theorem Qeq {b : Bool} {k : Nat} {e : Int} (he : e = ((k + 1 : Nat) : Int)) : (bif b then some (.inr (.inl (k : Int))) else some (.inl e) : Option (Int ⊕ (Int ⊕ Unit))) = XD (if b then some (k : Int) else none) k := by
  subst he; cases b <;> rfl

def YT (n : Int) : Bool := !(decide (0 ≤ n) && decide (n ≤ 10000))
theorem Qsk (l : List Int) (hl : l.length < 1073741824) : Qhk l = some (l.any YT) := by
  unfold Qhk Qlr
  rw [XZ l (fun k x => if YT x then some (k : Int) else none)]
  · simp only [Option.bind_some, Qer, Qep]
  · intro k hk
    unfold Qlq
    rw [Xj hk, Xy hk]
    simp only [cond_true, Option.bind_some, Qjj, Qat]
    exact Qeq (Xe k (by omega))
  · unfold Qlq
    rw [Xl]; rfl
def Jc (n : Int) : Bool := decide (n < 0)
theorem Qsj (l : List Int) (hl : l.length < 1073741824) : Qhj l = some (l.any Jc) := by
  unfold Qhj Qlp
  rw [XZ l (fun k x => if Jc x then some (k : Int) else none)]
  · simp only [Qer Jc, Option.bind_some, Qep]
  · intro k hk
    unfold Qlo
    rw [Xj hk, Xy hk]
    simp only [cond_true, Option.bind_some, Qjz]
    exact Qeq (Xe k (by omega))
  · unfold Qlo
    rw [Xl]; rfl
theorem Qsl (l : List Int) (m : Int) (hm : 0 ≤ m ∧ m ≤ 4611686018427387904) (hl : l.length < 1073741824) : Qhi l m = some (l.any fun n => !Xh m n) := by
  unfold Qhi Qln
  rw [XZ l (fun k x => if !Xh m x then some (k : Int) else none)]
  · simp only [Option.bind_some, Qer (fun n => !Xh m n), Qep]
  · intro k hk
    unfold Qlm
    rw [Xj hk, Xy hk]
    simp only [cond_true, Option.bind_some, Qjl, Qkn _ _ hm]
    exact Qeq (Xe k (by omega))
  · unfold Qlm
    rw [Xl]; rfl
theorem Qbn (l : List Int) (m : Int) (hm : 0 ≤ m ∧ m ≤ 4611686018427387904) (hl : l.length < 1073741824) : Z8 l m = some (l.all (Xh m)) := by
  unfold Z8
  rw [Qsl l m hm hl]
  simp only [Option.bind_some]
  congr 1
  rw [Bool.eq_iff_iff]; simp

/-! ### Plants -/
def YF (n m i : Nat) (row : List Int) : Option (LevitateMark × Int) :=
  if row.length ≠ n then some (⟨m, i⟩, 10) else if row.all (Xh 1000) then none else some (⟨m, i⟩, 2)
def Y1 (n m : Nat) (rows : List (List Int)) : Option (LevitateMark × Int) :=
  if rows.length ≠ n then some (⟨m, 0⟩, 10) else fs (YF n m) 0 rows
def X3 (p : LevitatePlant) : LevitateMark × Int :=
  if ¬ (1 ≤ p.Den ∧ p.Den ≤ 1000) then (⟨0, 0⟩, 2) else if p.Noise.length = 0 then (⟨0, 0⟩, 10) else if 3 < p.Noise.length then (⟨0, 0⟩, 8) else
    if p.Noise.any YT then (⟨0, 0⟩, 2) else if p.Maps.length = 0 then (⟨0, 0⟩, 10) else if 4 < p.Maps.length then (⟨0, 0⟩, 8) else
    match fs (Y1 p.Noise.length) 0 p.Maps with | some r => r | none => (⟨0, 0⟩, 0)

structure Sh (p : LevitatePlant) : Prop where
  noise : p.Noise.length < 1073741824
  maps : p.Maps.length < 1073741824
  rows : ∀ m ∈ p.Maps, m.length < 1073741824
  row : ∀ m ∈ p.Maps, ∀ r ∈ m, r.length < 1073741824

theorem YD (a b : Nat) : (decide ((a : Int) = (b : Int))) = decide (a = b) := by rw [Bool.eq_iff_iff]; simp; omega

theorem Qvt (p : LevitatePlant) (h : Sh p) : Qez p = some (X3 p) := by
  unfold Qez
  rw [Qsk _ h.noise]
  simp only [Option.bind_some, Qat, YS]
  rw [Qki _ (by simp)]
  simp only [Option.bind_some, Jq, Z9]
  have hloop : loop (Qey p 1000) 0 = some (oi (fs (Y1 p.Noise.length) 0 p.Maps)) := by
    refine XZ p.Maps _ (fun k hk => ?_) ?_
    · unfold Qey
      rw [Xj hk, Xy hk]
      simp only [cond_true, Option.bind_some, YD]
      have hm := List.getElem_mem hk
      generalize hrows : p.Maps[k] = rows at *
      unfold Y1
      by_cases hn : rows.length = p.Noise.length
      · simp only [hn, decide_true, Bool.not_true, cond_false, ne_eq, not_true_eq_false, if_false]
        have hin : loop (Qex rows p 1000 (k : Int)) 0 = some (oi ((fs (YF p.Noise.length k) 0 rows).map fun r => (.inr (.inl r) : Int ⊕ ((LevitateMark × Int) ⊕ Unit)))) := by
          rw [XZ rows (fun i row => (YF p.Noise.length k i row).map fun r => (.inr (.inl r) : Int ⊕ ((LevitateMark × Int) ⊕ Unit)))]
          · congr 2
            have : ∀ (l : List (List Int)) j, fs (fun i row => (YF p.Noise.length k i row).map fun r => (.inr (.inl r) : Int ⊕ ((LevitateMark × Int) ⊕ Unit))) j l = (fs (YF p.Noise.length k) j l).map fun r => .inr (.inl r) := by
              intro l
              induction l with
              | nil => intro j; rfl
              | cons x xs ih =>
                intro j
                simp only [fs]
                cases YF p.Noise.length k j x with
                | some r => rfl
                | none => exact ih _
            exact this rows 0
          · intro i hi
            unfold Qex
            rw [Xj hi, Xy hi]
            have hr := h.row _ hm _ (List.getElem_mem hi)
            simp only [cond_true, Option.bind_some, YS, Qbn _ 1000 (by decide) hr, ZS, YD, Xe i (by have := h.rows _ hm; omega)]
            unfold YF
            by_cases h1 : rows[i].length = p.Noise.length
            · by_cases h2 : rows[i].all (Xh 1000) = true
              · simp [h1, h2, XD]
              · simp [h1, h2, XD]
            · simp [h1, XD]
          · unfold Qex
            rw [Xl]; rfl
        rw [hin]
        cases fs (YF p.Noise.length k) 0 rows with
        | some r => rfl
        | none => simp only [Option.bind_some, Option.map_none, oi, Xk, XD]; rw [Xe k (by have := h.maps; omega)]
      · simp [hn, XD]
    · unfold Qey
      rw [Xl]; rfl
  rw [hloop]
  have e1 : (decide ((0 : Int) < (p.Noise.length : Int))) = !decide (p.Noise.length = 0) := by rw [Bool.eq_iff_iff, Bool.not_eq_true', decide_eq_true_iff, decide_eq_false_iff_not]; omega
  have e2 : (decide ((p.Noise.length : Int) ≤ 3)) = !decide (3 < p.Noise.length) := by rw [Bool.eq_iff_iff]; simp; omega
  have e3 : (decide ((0 : Int) < (p.Maps.length : Int))) = !decide (p.Maps.length = 0) := by rw [Bool.eq_iff_iff, Bool.not_eq_true', decide_eq_true_iff, decide_eq_false_iff_not]; omega
  have e4 : (decide ((p.Maps.length : Int) ≤ 4)) = !decide (4 < p.Maps.length) := by rw [Bool.eq_iff_iff]; simp; omega
  have e5 : (decide (1 ≤ p.Den) && decide (p.Den ≤ 1000)) = decide (1 ≤ p.Den ∧ p.Den ≤ 1000) := by rw [Bool.eq_iff_iff]; simp
  rw [e1, e2, e3, e4, e5]
  unfold X3
  by_cases h1 : 1 ≤ p.Den ∧ p.Den ≤ 1000 <;> by_cases h2 : p.Noise.length = 0 <;> by_cases h3 : 3 < p.Noise.length <;> cases h4 : p.Noise.any YT <;> by_cases h5 : p.Maps.length = 0 <;> by_cases h6 : 4 < p.Maps.length <;>
    simp only [h1, h2, h3, h5, h6, decide_true, decide_false, cond_true, cond_false, Bool.not_true, Bool.not_false, if_true, if_false, not_true_eq_false, not_false_eq_true, Option.bind_some] <;>
    (cases fs (Y1 p.Noise.length) 0 p.Maps <;> rfl)
end Go.Gw

end
section
set_option maxRecDepth 4096
set_option linter.unusedSimpArgs false
set_option linter.unusedVariables false
namespace Go.Gw
open Go

/-! ### Places and sums -/
def gi (l : List Int) (k : Nat) : Int := l.getD k 0
def gr (f : List (List Int)) (i : Nat) : List Int := f.getD i []
theorem YY {l : List Int} {k : Nat} (h : k < l.length) : l[k] = gi l k := by simp [gi, h]
theorem Zn {l : List (List Int)} {k : Nat} (h : k < l.length) : l[k] = gr l k := by simp [gr, h]
theorem XJ {l : List Int} {k : Nat} (h : k < l.length) : idx l (k : Int) = some (gi l k) := by rw [Xy h, YY h]
theorem ZT {l : List (List Int)} {k : Nat} (h : k < l.length) : idx l (k : Int) = some (gr l k) := by rw [Xy h, Zn h]
theorem J7 {l : List Int} {k : Nat} (h : k < l.length) : gi l k ∈ l := by rw [← YY h]; exact List.getElem_mem h
theorem Qjc {l : List (List Int)} {k : Nat} (h : k < l.length) : gr l k ∈ l := by rw [← Zn h]; exact List.getElem_mem h
theorem Qgd {l : List Int} {x : Int} (h : x ∈ l) : ∃ k, k < l.length ∧ gi l k = x := by
  obtain ⟨k, hk, rfl⟩ := List.getElem_of_mem h; exact ⟨k, hk, (YY hk).symm⟩
theorem Qoy {a b : List Int} (hl : a.length = b.length) (h : ∀ k, k < a.length → gi a k = gi b k) : a = b := by
  apply List.ext_getElem hl
  intro k h1 h2
  rw [YY h1, YY h2]; exact h k h1
def QY (t : Nat → Int) : Nat → Int
  | 0 => 0
  | n + 1 => QY t n + t n
theorem JR {t u : Nat → Int} : ∀ {n : Nat}, (∀ k, k < n → t k = u k) → QY t n = QY u n
  | 0, _ => rfl
  | n + 1, h => by simp only [QY]; rw [JR (fun k hk => h k (by omega)), h n (by omega)]
theorem Qlv {t u : Nat → Int} : ∀ {n : Nat}, (∀ k, k < n → t k ≤ u k) → QY t n ≤ QY u n
  | 0, _ => Int.le_refl _
  | n + 1, h => by simp only [QY]; have := Qlv (n := n) (fun k hk => h k (by omega)); have := h n (by omega); omega
theorem Qlw {t : Nat → Int} : ∀ {n : Nat}, (∀ k, k < n → 0 ≤ t k) → 0 ≤ QY t n
  | 0, _ => Int.le_refl _
  | n + 1, h => by simp only [QY]; have := Qlw (n := n) (fun k hk => h k (by omega)); have := h n (by omega); omega
theorem Qrb {t : Nat → Int} {B : Int} : ∀ {n : Nat}, (∀ k, k < n → t k ≤ B) → QY t n ≤ n * B
  | 0, _ => by simp [QY]
  | n + 1, h => by
    simp only [QY]
    have h1 := Qrb (n := n) (fun k hk => h k (by omega)); have h2 := h n (by omega)
    have : ((n + 1 : Nat) : Int) * B = n * B + B := by rw [Int.natCast_add, Int.add_mul]; simp
    omega
theorem Qhq (x : Int) : w64 x = (x + 9223372036854775808) % 18446744073709551616 - 9223372036854775808 := by
  have : w64 x = if x % 18446744073709551616 ≥ 9223372036854775808 then x % 18446744073709551616 - 18446744073709551616 else x % 18446744073709551616 := by
    simp [w64, IntKind.wrap, IntKind.bits, IntKind.signed]
  rw [this]; split <;> omega
theorem Qhp (a b : Int) : w64 (w64 a + b) = w64 (a + b) := by simp only [Qhq]; omega
theorem Jf (a b : Int) : w64 (a + w64 b) = w64 (a + b) := by simp only [Qhq]; omega
theorem Qgb {step : (Int × Int) → Option ((Int × Int) ⊕ Int)} (n : Nat) (t : Nat → Int) (hs : ∀ k, k < n → ∀ a, step (a, (k : Int)) = some (.inl (w64 (a + t k), ((k + 1 : Nat) : Int)))) (he : ∀ a, step (a, (n : Int)) = some (.inr a)) :
    loop step (0, 0) = some (w64 (QY t n)) := by
  have key : ∀ k, k ≤ n → loop step (0, 0) = loop step (w64 (QY t k), (k : Int)) := by
    intro k
    induction k with
    | zero => intro _; rfl
    | succ k ih => intro hk; rw [ih (by omega), Yg (hs k (by omega) _), Qhp]; rfl
  rw [key n (Nat.le_refl _)]
  exact XO (he _)

/-! ### Right plants -/
structure Rp (p : LevitatePlant) : Prop where
  den : 1 ≤ p.Den ∧ p.Den ≤ 1000
  n1 : 1 ≤ p.Noise.length
  n3 : p.Noise.length ≤ 3
  noise : ∀ x ∈ p.Noise, 0 ≤ x ∧ x ≤ 10000
  m1 : 1 ≤ p.Maps.length
  m4 : p.Maps.length ≤ 4
  sq : ∀ m ∈ p.Maps, m.length = p.Noise.length
  row : ∀ m ∈ p.Maps, ∀ r ∈ m, r.length = p.Noise.length
  ent : ∀ m ∈ p.Maps, ∀ r ∈ m, ∀ x ∈ r, -1000 ≤ x ∧ x ≤ 1000
theorem Zm {α ρ : Type} {f : Nat → α → Option ρ} {r : ρ} : ∀ {l : List α} {k : Nat}, fs f k l = some r → ∃ i, ∃ h : i < l.length, f (k + i) l[i] = some r := by
  intro l
  induction l with
  | nil => intro k h; cases h
  | cons x xs ih =>
    intro k h
    cases hx : f k x with
    | some r' => simp only [fs, hx] at h; cases h; exact ⟨0, by simp, by simpa using hx⟩
    | none =>
      simp only [fs, hx] at h
      obtain ⟨i, hi, h'⟩ := ih h
      exact ⟨i + 1, by simpa using hi, by simpa [Nat.add_assoc, Nat.add_comm 1 i] using h'⟩
theorem QBp {n m i : Nat} {row : List Int} {r : LevitateMark × Int} (h : YF n m i row = some r) : r.2 ≠ 0 := by
  unfold YF at h; split at h
  · cases h; simp
  · split at h
    · cases h
    · cases h; simp
theorem Qpb {n m : Nat} {rows : List (List Int)} {r : LevitateMark × Int} (h : Y1 n m rows = some r) : r.2 ≠ 0 := by
  unfold Y1 at h; split at h
  · cases h; simp
  · obtain ⟨i, hi, h'⟩ := Zm h; exact QBp h'
theorem Qla (l : List Int) : l.any YT = false ↔ ∀ x ∈ l, 0 ≤ x ∧ x ≤ 10000 := by
  rw [List.any_eq_false]; simp [YT]
theorem ZH (m x : Int) : Xh m x = true ↔ -m ≤ x ∧ x ≤ m := by simp [Xh]
theorem ckP_right {p : LevitatePlant} : (X3 p).2 = 0 ↔ Rp p := by
  constructor
  · intro h
    unfold X3 at h
    by_cases h1 : 1 ≤ p.Den ∧ p.Den ≤ 1000
    · by_cases h2 : p.Noise.length = 0
      · simp [h1, h2] at h
      · by_cases h3 : 3 < p.Noise.length
        · simp only [h1, h2, h3, if_true, if_false, not_true_eq_false, and_self] at h; simp at h
        · cases h4 : p.Noise.any YT with
          | true => simp only [h1, h2, h3, h4, if_true, if_false, not_true_eq_false, and_self] at h; simp at h
          | false =>
            by_cases h5 : p.Maps.length = 0
            · simp only [h1, h2, h3, h4, h5, if_true, if_false, not_true_eq_false, and_self] at h; simp at h
            · by_cases h6 : 4 < p.Maps.length
              · simp only [h1, h2, h3, h4, h5, h6, if_true, if_false, not_true_eq_false, and_self] at h; simp at h
              · simp only [h1, h2, h3, h4, h5, h6, if_true, if_false, not_true_eq_false, and_self] at h
                cases h7 : fs (Y1 p.Noise.length) 0 p.Maps with
                | some r =>
                  simp only [h7] at h
                  obtain ⟨i, hi, h'⟩ := Zm h7
                  exact absurd h (Qpb h')
                | none =>
                  rw [fs_none] at h7
                  have hm : ∀ m ∈ p.Maps, ∃ i, Y1 p.Noise.length i m = none := fun m hm => by
                    obtain ⟨i, hi, rfl⟩ := List.getElem_of_mem hm
                    exact ⟨_, h7 i hi⟩
                  have hm2 : ∀ m ∈ p.Maps, m.length = p.Noise.length ∧ ∀ r ∈ m, r.length = p.Noise.length ∧ r.all (Xh 1000) = true := fun m hm' => by
                    obtain ⟨i, hi⟩ := hm m hm'
                    unfold Y1 at hi
                    split at hi
                    · cases hi
                    · rename_i hl
                      refine ⟨by simpa using hl, fun r hr => ?_⟩
                      rw [fs_none] at hi
                      obtain ⟨j, hj, rfl⟩ := List.getElem_of_mem hr
                      have := hi j hj
                      unfold YF at this
                      split at this
                      · cases this
                      · rename_i hrl
                        split at this
                        · rename_i ha; exact ⟨by simpa using hrl, ha⟩
                        · cases this
                  exact ⟨h1, by omega, by omega, (Qla _).1 h4, by omega, by omega, fun m hm => (hm2 m hm).1, fun m hm r hr => ((hm2 m hm).2 r hr).1, fun m hm r hr x hx => (ZH 1000 x).1 (List.all_eq_true.1 ((hm2 m hm).2 r hr).2 x hx)⟩
    · rw [if_pos h1] at h; simp at h
  · intro h
    have e4 : fs (Y1 p.Noise.length) 0 p.Maps = none := by
      rw [fs_none]
      intro i hi
      have hm := List.getElem_mem hi
      unfold Y1
      rw [if_neg (by simp [h.sq _ hm]), fs_none]
      intro j hj
      have hr := List.getElem_mem hj
      unfold YF
      rw [if_neg (by simp [h.row _ hm _ hr]), if_pos (List.all_eq_true.2 fun x hx => (ZH 1000 x).2 (h.ent _ hm _ hr x hx))]
    unfold X3
    rw [if_neg (by simp [h.den]), if_neg (by have := h.n1; omega), if_neg (by have := h.n3; omega), if_neg (by rw [Bool.not_eq_true]; exact (Qla _).2 h.noise), if_neg (by have := h.m1; omega), if_neg (by have := h.m4; omega), e4]
theorem Rp.ck {p : LevitatePlant} (h : Rp p) : X3 p = (⟨0, 0⟩, 0) := by
  have h0 := ckP_right.2 h
  unfold X3 at h0 ⊢
  rw [if_neg (by simp [h.den]), if_neg (by have := h.n1; omega), if_neg (by have := h.n3; omega), if_neg (by rw [Bool.not_eq_true]; exact (Qla _).2 h.noise), if_neg (by have := h.m1; omega), if_neg (by have := h.m4; omega)] at h0 ⊢
  cases h7 : fs (Y1 p.Noise.length) 0 p.Maps with
  | some r => simp only [h7] at h0; obtain ⟨i, hi, h'⟩ := Zm h7; exact absurd h0 (Qpb h')
  | none => rfl
theorem Rp.sh {p : LevitatePlant} (h : Rp p) : Sh p :=
  ⟨by have := h.n3; omega, by have := h.m4; omega, fun m hm => by have := h.sq m hm; have := h.n3; omega, fun m hm r hr => by have := h.row m hm r hr; have := h.n3; omega⟩

theorem QAy (p : LevitatePlant) (h : Sh p) : Qgs p = some (X3 p) := by
  unfold Qgs
  rw [Qby]
  have hn : loop (Qgo p) 0 = some (oi (fs (fun _ x => if YT x then some ((⟨0, 0⟩, 2) : LevitateMark × Int) else none) 0 p.Noise)) := by
    refine XZ p.Noise _ (fun k hk => ?_) ?_
    · unfold Qgo
      rw [Xj hk, Xy hk, Xe k (by have := h.noise; omega)]
      simp only [cond_true, Option.bind_some, Qby]
      show (bif YT p.Noise[k] then _ else _) = _
      cases YT p.Noise[k] <;> rfl
    · unfold Qgo
      rw [Xl]; rfl
  have hloop : loop (Qgr p) 0 = some (oi (fs (Y1 p.Noise.length) 0 p.Maps)) := by
    refine XZ p.Maps _ (fun k hk => ?_) ?_
    · unfold Qgr
      rw [Xj hk, Xy hk]
      simp only [cond_true, Option.bind_some, YD]
      have hm := List.getElem_mem hk
      unfold Y1
      by_cases hn : p.Maps[k].length = p.Noise.length
      · simp only [hn, decide_true, Bool.not_true, cond_false, ne_eq, not_true_eq_false, if_false]
        have hin : loop (Qgq p (k : Int)) 0 = some (oi ((fs (YF p.Noise.length k) 0 p.Maps[k]).map fun r => (.inr (.inl r) : Int ⊕ ((LevitateMark × Int) ⊕ Unit)))) := by
          rw [XZ p.Maps[k] (fun i row => (YF p.Noise.length k i row).map fun r => (.inr (.inl r) : Int ⊕ ((LevitateMark × Int) ⊕ Unit)))]
          · congr 2
            have : ∀ (l : List (List Int)) j, fs (fun i row => (YF p.Noise.length k i row).map fun r => (.inr (.inl r) : Int ⊕ ((LevitateMark × Int) ⊕ Unit))) j l = (fs (YF p.Noise.length k) j l).map fun r => .inr (.inl r) := by
              intro l
              induction l with
              | nil => intro j; rfl
              | cons x xs ih =>
                intro j
                simp only [fs]
                cases YF p.Noise.length k j x with
                | some r => rfl
                | none => exact ih _
            exact this p.Maps[k] 0
          · intro i hi
            unfold Qgq
            rw [Xy hk, Option.bind_some, Xj hi, cond_true, Option.bind_some, Xy hi, Option.bind_some]
            have hr := h.row _ hm _ (List.getElem_mem hi)
            generalize hrow : p.Maps[k][i] = row at *
            have h1 : loop (Qgp row (k : Int) (i : Int)) 0 = some (oi (fs (fun _ x => if Xh 1000 x then none else some ((.inr (.inl (.inr (.inl ((⟨k, i⟩, 2) : LevitateMark × Int))))) : Int ⊕ (((Int) ⊕ ((LevitateMark × Int) ⊕ (Unit))) ⊕ (Unit)))) 0 row)) := by
              refine XZ row _ (fun t ht => ?_) ?_
              · unfold Qgp
                rw [Xj ht, Xy ht, Xe t (by omega)]
                simp only [cond_true, Option.bind_some, Qby]
                show (bif !Xh 1000 row[t] then _ else _) = _
                cases Xh 1000 row[t] <;> rfl
              · unfold Qgp
                rw [Xl]; rfl
            have h2 : fs (fun _ x => if Xh 1000 x then none else some ((.inr (.inl (.inr (.inl ((⟨k, i⟩, 2) : LevitateMark × Int))))) : Int ⊕ (((Int) ⊕ ((LevitateMark × Int) ⊕ (Unit))) ⊕ (Unit)))) 0 row = if row.all (Xh 1000) then none else some (.inr (.inl (.inr (.inl (⟨k, i⟩, 2))))) := by
              have : ∀ (l : List Int) t, fs (fun _ x => if Xh 1000 x then none else some ((.inr (.inl (.inr (.inl ((⟨k, i⟩, 2) : LevitateMark × Int))))) : Int ⊕ (((Int) ⊕ ((LevitateMark × Int) ⊕ (Unit))) ⊕ (Unit)))) t l = if l.all (Xh 1000) then none else some (.inr (.inl (.inr (.inl (⟨k, i⟩, 2))))) := by
                intro l
                induction l with
                | nil => intro t; rfl
                | cons x xs ih =>
                  intro t
                  cases hx : Xh 1000 x with
                  | true => simp [fs, hx, ih]
                  | false => simp [fs, hx]
              exact this row 0
            simp only [YD, h1, h2, Option.bind_some]
            rw [Xe i (by have := h.rows _ hm; omega)]
            unfold YF
            by_cases h3 : row.length = p.Noise.length
            · by_cases h4 : row.all (Xh 1000) = true
              · simp [h3, h4, XD, oi, Xk]
              · simp [h3, h4, XD, oi, Xk]
            · simp [h3, XD]
          · unfold Qgq
            rw [Xy hk, Option.bind_some, Xl]; rfl
        rw [hin]
        cases fs (YF p.Noise.length k) 0 p.Maps[k] with
        | some r => rfl
        | none => simp only [Option.bind_some, Option.map_none, oi, Xk, XD]; rw [Xe k (by have := h.maps; omega)]
      · simp [hn, XD]
    · unfold Qgr
      rw [Xl]; rfl
  have hn2 : fs (fun _ x => if YT x then some ((⟨0, 0⟩, 2) : LevitateMark × Int) else none) 0 p.Noise = if p.Noise.any YT then some (⟨0, 0⟩, 2) else none := by
    have : ∀ (l : List Int) t, fs (fun _ x => if YT x then some ((⟨0, 0⟩, 2) : LevitateMark × Int) else none) t l = if l.any YT then some (⟨0, 0⟩, 2) else none := by
      intro l
      induction l with
      | nil => intro t; rfl
      | cons x xs ih =>
        intro t
        cases hx : YT x with
        | true => simp [fs, hx]
        | false => simp [fs, hx, ih]
    exact this p.Noise 0
  rw [hloop, hn, hn2]
  have e1 : (decide ((p.Noise.length : Int) = 0)) = decide (p.Noise.length = 0) := YD _ 0
  have e2 : (decide (3 < (p.Noise.length : Int))) = decide (3 < p.Noise.length) := by rw [Bool.eq_iff_iff, decide_eq_true_iff, decide_eq_true_iff]; omega
  have e3 : (decide ((p.Maps.length : Int) = 0)) = decide (p.Maps.length = 0) := YD _ 0
  have e4 : (decide (4 < (p.Maps.length : Int))) = decide (4 < p.Maps.length) := by rw [Bool.eq_iff_iff, decide_eq_true_iff, decide_eq_true_iff]; omega
  have e5 : (decide (1 ≤ p.Den) && decide (p.Den ≤ 1000)) = decide (1 ≤ p.Den ∧ p.Den ≤ 1000) := by rw [Bool.eq_iff_iff]; simp
  rw [e1, e2, e3, e4, e5]
  unfold X3
  by_cases h1 : 1 ≤ p.Den ∧ p.Den ≤ 1000 <;> by_cases h2 : p.Noise.length = 0 <;> by_cases h3 : 3 < p.Noise.length <;> cases h4 : p.Noise.any YT <;> by_cases h5 : p.Maps.length = 0 <;> by_cases h6 : 4 < p.Maps.length <;>
    simp only [h1, h2, h3, h5, h6, decide_true, decide_false, cond_true, cond_false, Bool.not_true, Bool.not_false, if_true, if_false, not_true_eq_false, not_false_eq_true, Option.bind_some, oi, Xk, Bool.false_eq_true] <;>
    (cases fs (Y1 p.Noise.length) 0 p.Maps <;> rfl)
theorem Qkm (p : LevitatePlant) (h : Sh p) : Qak p = some (⟨p⟩, (X3 p).2) := by
  unfold Qak; rw [Qvt p h]; rfl

/-! ### States and boxes -/
def ZJ (p : LevitatePlant) (x : List Int) : Int := if x.length ≠ p.Noise.length then 10 else if x.all (Xh 100000) then 0 else 2
def bxE (p : LevitatePlant) (x : List Int) : Int := if ZJ p x ≠ 0 then ZJ p x else if x.any Jc then 2 else 0
theorem Qoz (p : LevitatePlant) (x : List Int) (hx : x.length < 1073741824) : Qam ⟨p⟩ x = some (ZJ p x) := by
  unfold Qam
  simp only [YS, Option.bind_some, Z9, Qbn x 100000 (by decide) hx, ZS, YD]
  unfold ZJ
  by_cases h : x.length = p.Noise.length <;> cases h2 : x.all (Xh 100000) <;> simp [h]
theorem Qwf (p : LevitatePlant) (x : List Int) (hx : x.length < 1073741824) : Qfq ⟨p⟩ x = some (bxE p x) := by
  unfold Qfq
  simp only [Qsj x hx, Qoz p x hx, YS, Option.bind_some, ZS]
  unfold bxE
  by_cases h : ZJ p x = 0 <;> cases h2 : x.any Jc <;> simp [h]
def opB (p : LevitatePlant) (x : List Int) : Int := if (X3 p).2 ≠ 0 then (X3 p).2 else bxE p x
theorem Qya (p : LevitatePlant) (x : List Int) (h : Sh p) (hx : x.length < 1073741824) : Qfo p x = some (⟨p⟩, opB p x) := by
  unfold Qfo
  rw [Qkm p h]
  simp only [Option.bind_some, Qwf p x hx]
  unfold opB
  by_cases h1 : (X3 p).2 = 0 <;> simp [h1]
structure Bx (p : LevitatePlant) (x : List Int) : Prop where
  len : x.length = p.Noise.length
  ge : ∀ k, k < x.length → 0 ≤ gi x k
  le : ∀ k, k < x.length → gi x k ≤ 100000
theorem bxE_right {p : LevitatePlant} {x : List Int} : bxE p x = 0 ↔ Bx p x := by
  unfold bxE ZJ
  constructor
  · intro h
    by_cases h1 : x.length = p.Noise.length
    · cases h2 : x.all (Xh 100000) with
      | false => simp [h1, h2] at h
      | true =>
        cases h3 : x.any Jc with
        | true => simp [h1, h2, h3] at h
        | false =>
          rw [List.all_eq_true] at h2
          rw [List.any_eq_false] at h3
          exact ⟨h1, fun k hk => by have := h3 _ (J7 hk); simp [Jc] at this; omega, fun k hk => ((ZH _ _).1 (h2 _ (J7 hk))).2⟩
    · simp [h1] at h
  · intro h
    have h2 : x.all (Xh 100000) = true := List.all_eq_true.2 fun y hy => by
      obtain ⟨k, hk, rfl⟩ := Qgd hy
      have := h.ge k hk; have := h.le k hk
      exact (ZH _ _).2 (by omega)
    have h3 : x.any Jc = false := List.any_eq_false.2 fun y hy => by
      obtain ⟨k, hk, rfl⟩ := Qgd hy
      have := h.ge k hk
      simp [Jc]; omega
    simp [h.len, h2, h3]
end Go.Gw

end
section
set_option maxRecDepth 4096
set_option linter.unusedSimpArgs false
set_option linter.unusedVariables false
namespace Go.Gw
open Go

def gm (p : LevitatePlant) (m : Nat) : List (List Int) := p.Maps.getD m []
theorem Qnz {p : LevitatePlant} {m : Nat} (h : m < p.Maps.length) : p.Maps[m] = gm p m := by simp [gm, h]
theorem Qjd {p : LevitatePlant} {m : Nat} (h : m < p.Maps.length) : idx p.Maps (m : Int) = some (gm p m) := by rw [Xy h, Qnz h]
theorem JJ {p : LevitatePlant} {m : Nat} (h : m < p.Maps.length) : gm p m ∈ p.Maps := by rw [← Qnz h]; exact List.getElem_mem h
def ge (p : LevitatePlant) (m i k : Nat) : Int := gi (gr (gm p m) i) k
theorem Rp.row_len {p : LevitatePlant} (h : Rp p) {m i : Nat} (hm : m < p.Maps.length) (hi : i < p.Noise.length) : (gr (gm p m) i).length = p.Noise.length :=
  h.row _ (JJ hm) _ (Qjc (by rw [h.sq _ (JJ hm)]; exact hi))
theorem Rp.ge_b {p : LevitatePlant} (h : Rp p) {m i k : Nat} (hm : m < p.Maps.length) (hi : i < p.Noise.length) (hk : k < p.Noise.length) : -1000 ≤ ge p m i k ∧ ge p m i k ≤ 1000 :=
  h.ent _ (JJ hm) _ (Qjc (by rw [h.sq _ (JJ hm)]; exact hi)) _ (J7 (by rw [h.row_len hm hi]; exact hk))
theorem Rp.noise_b {p : LevitatePlant} (h : Rp p) {i : Nat} (hi : i < p.Noise.length) : 0 ≤ gi p.Noise i ∧ gi p.Noise i ≤ 10000 := h.noise _ (J7 hi)

def Zq (p : LevitatePlant) (m i : Nat) (box : List Int) : Int := QY (fun k => ((ge p m i k).natAbs : Int) * gi box k) p.Noise.length
def Yh (p : LevitatePlant) (m i : Nat) (box : List Int) : Int := (Zq p m i box + p.Den - 1) / p.Den + gi p.Noise i
theorem QBd {p : LevitatePlant} (h : Rp p) {m i : Nat} (hm : m < p.Maps.length) (hi : i < p.Noise.length) {box : List Int} (hb : ∀ k, k < p.Noise.length → 0 ≤ gi box k ∧ gi box k ≤ 100000) : 0 ≤ Zq p m i box ∧ Zq p m i box ≤ 300000000 := by
  constructor
  · exact Qlw fun k hk => Int.mul_nonneg (by omega) (hb k hk).1
  · have h1 : Zq p m i box ≤ (p.Noise.length : Int) * 100000000 := Qrb fun k hk => by
      have h2 := h.ge_b hm hi hk
      have h3 := hb k hk
      have : ((ge p m i k).natAbs : Int) * gi box k ≤ 1000 * 100000 := Int.mul_le_mul (by omega) h3.2 h3.1 (by omega)
      omega
    have := h.n3
    omega
theorem Qwg {n by_ : Int} (h0 : 0 ≤ n) (h1 : n ≤ 4000000000000000000) (h2 : 1 ≤ by_) (h3 : by_ ≤ 4000000000000000000) : JK n by_ = some ((n + by_ - 1) / by_) := by
  unfold JK
  have : decide (n < 0) = false := by simp; omega
  rw [this, cond_false, Xd (x := n + by_) (by omega), Xd (by omega), Qlc (by omega), Int.tdiv_eq_ediv_of_nonneg (by omega)]
  have h4 : 0 ≤ (n + by_ - 1) / by_ := Int.ediv_nonneg (by omega) (by omega)
  have h5 : (n + by_ - 1) / by_ ≤ n + by_ - 1 := Int.ediv_le_self _ (by omega)
  rw [Option.bind_some, Xd (by omega)]
theorem Qpf {p : LevitatePlant} (h : Rp p) {m i : Nat} (hm : m < p.Maps.length) (hi : i < p.Noise.length) {box : List Int} (hl : box.length = p.Noise.length) (hb : ∀ k, k < p.Noise.length → 0 ≤ gi box k ∧ gi box k ≤ 100000) :
    Qcn ⟨p⟩ (m : Int) (i : Int) box = some (Yh p m i box) := by
  unfold Qcn
  have hmi : i < (gm p m).length := by rw [h.sq _ (JJ hm)]; exact hi
  rw [Qjd hm, Option.bind_some, ZT hmi, Option.bind_some]
  have hr := QBd h hm hi hb
  rw [Qgb (p.Noise.length) (fun k => ((ge p m i k).natAbs : Int) * gi box k)]
  · rw [Option.bind_some, XJ hi, Option.bind_some]
    change Option.bind (JK (w64 (Zq p m i box)) p.Den) _ = _
    have hn := h.noise_b hi
    have hd := h.den
    rw [Xd (by omega), Qwg hr.1 (by omega) hd.1 (by omega), Option.bind_some]
    have h4 : 0 ≤ (Zq p m i box + p.Den - 1) / p.Den := Int.ediv_nonneg (by omega) (by omega)
    have h5 : (Zq p m i box + p.Den - 1) / p.Den ≤ Zq p m i box + p.Den - 1 := Int.ediv_le_self _ (by omega)
    rw [Xd (by omega)]; rfl
  · intro k hk a
    unfold Qkb
    have hrl := h.row_len hm hi
    simp only [hrl, Xj hk, cond_true]
    rw [XJ (by rw [hrl]; exact hk), Option.bind_some, XJ (by omega), Option.bind_some]
    have hg := h.ge_b hm hi hk
    change Option.bind (Qcr (ge p m i k)) _ = _
    rw [Qyd (by omega), Option.bind_some, Jf, Xe k (by have := h.n3; omega)]
  · intro a
    unfold Qkb
    simp only [h.row_len hm hi, Xl]; rfl
theorem QBe {p : LevitatePlant} {m i : Nat} {a b : List Int} (hab : ∀ k, k < p.Noise.length → gi a k ≤ gi b k) : Zq p m i a ≤ Zq p m i b :=
  Qlv fun k hk => Int.mul_le_mul_of_nonneg_left (hab k hk) (by omega)
theorem Qym {p : LevitatePlant} (h : Rp p) {m i : Nat} {a b : List Int} (hab : ∀ k, k < p.Noise.length → gi a k ≤ gi b k) : Yh p m i a ≤ Yh p m i b := by
  unfold Yh
  have := QBe (m := m) (i := i) hab
  have : (Zq p m i a + p.Den - 1) / p.Den ≤ (Zq p m i b + p.Den - 1) / p.Den := Int.ediv_le_ediv (by have := h.den; omega) (by omega)
  omega

/-! ### The first row by which a box is left -/
def JF (p : LevitatePlant) (box : List Int) (m : Nat) : Option (Nat × Nat) := fs (fun i b => if b < Yh p m i box then some (m, i) else none) 0 box
def brk (p : LevitatePlant) (box : List Int) : Option (Nat × Nat) := fs (fun m _ => JF p box m) 0 p.Maps
def Zx : Option (Nat × Nat) → LevitateMark × Bool
  | some (m, i) => (⟨m, i⟩, true)
  | none => (⟨0, 0⟩, false)
theorem Qua {p : LevitatePlant} {box : List Int} {m i : Nat} (h : brk p box = some (m, i)) : m < p.Maps.length ∧ i < box.length ∧ gi box i < Yh p m i box := by
  obtain ⟨j, hj, h1⟩ := Zm h
  obtain ⟨k, hk, h2⟩ := Zm h1
  split at h2
  · rename_i hlt
    cases h2
    exact ⟨by omega, by omega, by rw [← YY (by omega)]; simpa using hlt⟩
  · cases h2
theorem Qtz {p : LevitatePlant} {box : List Int} (h : brk p box = none) : ∀ m, m < p.Maps.length → ∀ i, i < box.length → Yh p m i box ≤ gi box i := by
  intro m hm i hi
  unfold brk at h
  rw [fs_none] at h
  have h1 := h m hm
  unfold JF at h1
  rw [fs_none] at h1
  have h2 := h1 i hi
  split at h2
  · cases h2
  · rename_i hlt
    rw [YY hi] at hlt
    simpa using hlt
theorem JO {α ρ σ : Type} (g : ρ → σ) (f : Nat → α → Option ρ) : ∀ (l : List α) (k : Nat), fs (fun i x => (f i x).map g) k l = (fs f k l).map g
  | [], _ => rfl
  | x :: xs, k => by
    simp only [fs]
    cases f k x with
    | some r => rfl
    | none => exact JO g f xs (k + 1)
theorem Qnc {p : LevitatePlant} (h : Rp p) {box : List Int} (hl : box.length = p.Noise.length) (hb : ∀ k, k < p.Noise.length → 0 ≤ gi box k ∧ gi box k ≤ 100000) :
    Qck ⟨p⟩ box = some (Zx (brk p box)) := by
  unfold Qck
  have hin : ∀ m, m < p.Maps.length → loop (Qfr box ⟨p⟩ (m : Int)) 0 = some (oi ((JF p box m).map fun r => (.inr (.inl (Zx (some r))) : Int ⊕ ((LevitateMark × Bool) ⊕ Unit)))) := by
    intro m hm
    rw [XZ box (fun i b => (if b < Yh p m i box then some (m, i) else none).map fun r => (.inr (.inl (Zx (some r))) : Int ⊕ ((LevitateMark × Bool) ⊕ Unit)))]
    · rw [JO]; rfl
    · intro k hk
      unfold Qfr
      rw [Xj hk, Xy hk, cond_true, Option.bind_some, Qpf h hm (by omega) hl hb, Option.bind_some, Xe k (by have := h.n3; omega)]
      by_cases hlt : box[k] < Yh p m k box <;> simp [hlt, XD, Zx]
    · unfold Qfr
      rw [Xl]; rfl
  rw [XZ p.Maps (fun m _ => (JF p box m).map fun r => Zx (some r))]
  · rw [JO (fun r => Zx (some r)) (fun m _ => JF p box m)]
    unfold brk
    cases fs (fun m _ => JF p box m) 0 p.Maps <;> rfl
  · intro m hm
    unfold Qka
    rw [Xj hm, cond_true, hin m hm, Option.bind_some, Xe m (by have := h.m4; omega)]
    cases JF p box m <;> rfl
  · unfold Qka
    rw [Xl]; rfl

/-! ### The least box -/
def Qbj (p : LevitatePlant) (K : List Int) : Prop := ∀ m, m < p.Maps.length → ∀ i, i < p.Noise.length → Yh p m i K ≤ gi K i
structure LbOk (p : LevitatePlant) (start b : List Int) : Prop where
  len : b.length = p.Noise.length
  from_ : ∀ k, k < p.Noise.length → gi start k ≤ gi b k
  le : ∀ k, k < p.Noise.length → gi b k ≤ 100000
  kept : Qbj p b
  least : ∀ K, Qbj p K → (∀ k, k < p.Noise.length → gi start k ≤ gi K k) → ∀ k, k < p.Noise.length → gi b k ≤ gi K k
def Qso (p : LevitatePlant) (start : List Int) : Prop := ∀ K, Qbj p K → (∀ k, k < p.Noise.length → gi start k ≤ gi K k) → ¬ ∀ k, k < p.Noise.length → gi K k ≤ 100000
def LbR (p : LevitatePlant) (start : List Int) (r : List Int × Int) : Prop := (r.2 = 0 ∧ LbOk p start r.1) ∨ (r = ([], 24) ∧ Qso p start)
theorem J8 {l : List Int} {i k : Nat} {v : Int} (hi : i < l.length) : gi (l.set i v) k = if i = k then v else gi l k := by
  unfold gi
  simp only [List.getD_eq_getElem?_getD, List.getElem?_set]
  by_cases h : i = k
  · subst h; simp [hi]
  · simp [h]
structure LbI (p : LevitatePlant) (start box : List Int) : Prop where
  len : box.length = p.Noise.length
  from_ : ∀ k, k < p.Noise.length → gi start k ≤ gi box k
  rng : ∀ k, k < p.Noise.length → 0 ≤ gi box k ∧ gi box k ≤ 100000
  least : ∀ K, Qbj p K → (∀ k, k < p.Noise.length → gi start k ≤ gi K k) → ∀ k, k < p.Noise.length → gi box k ≤ gi K k
theorem Qrc {t u : Nat → Int} {j : Nat} : ∀ {n : Nat}, j < n → (∀ k, k < n → t k ≤ u k) → t j < u j → QY t n < QY u n
  | 0, h, _, _ => by omega
  | n + 1, h, hle, hlt => by
    simp only [QY]
    by_cases hj : j = n
    · subst hj
      have := Qlv (n := j) (fun k hk => hle k (by omega)); omega
    · have := Qrc (n := n) (by omega) (fun k hk => hle k (by omega)) hlt
      have := hle n (by omega); omega
theorem Qvv {p : LevitatePlant} (h : Rp p) {start : List Int} (hs : Bx p start) : Runs (Qac p start) (LbR p start) := by
  unfold Qac
  have hl : start.length < 1073741824 := by have := hs.len; have := h.n3; omega
  rw [Qya p start h.sh hl]
  have h0 : opB p start = 0 := by unfold opB; rw [h.ck, bxE_right.2 hs]; simp
  simp only [Option.bind_some, h0, decide_true, Bool.not_true, cond_false, Qlj]
  rw [Ym (by simp; omega), List.nil_append, Option.bind_some, Option.bind_some]
  have hI0 : LbI p start start := ⟨hs.len, fun _ _ => Int.le_refl _, fun k hk => ⟨hs.ge k (by rw [hs.len]; exact hk), hs.le k (by rw [hs.len]; exact hk)⟩, fun _ _ hK => hK⟩
  rw [Qnc h hI0.len hI0.rng, Option.bind_some]
  refine Runs.callR (R := fun o => match o with | .inl r => LbR p start r | .inr b => LbR p start (b, 0)) ?_ ?_
  · refine Runs.loop (fun s => LbI p start s.1 ∧ s.2 = ((Zx (brk p s.1)).2, (Zx (brk p s.1)).1.Map, (Zx (brk p s.1)).1.Row)) (fun s => (QY (fun k => 100000 - gi s.1 k) p.Noise.length).toNat) ⟨hI0, rfl⟩ ?_
    rintro ⟨box, left, m, i⟩ ⟨hI, he⟩
    replace hI : LbI p start box := hI
    simp only [Prod.mk.injEq] at he
    obtain ⟨rfl, rfl, rfl⟩ := he
    unfold Qof
    cases hb : brk p box with
    | none =>
      simp only [Zx, cond_false]
      refine Runs.some ?_
      refine .inl ⟨rfl, hI.len, hI.from_, fun k hk => (hI.rng k hk).2, fun m hm i hi => Qtz hb m hm i (by rw [hI.len]; exact hi), hI.least⟩
    | some mi =>
      obtain ⟨m, i⟩ := mi
      obtain ⟨hm, hi, hlt⟩ := Qua hb
      have hi' : i < p.Noise.length := by rw [← hI.len]; exact hi
      simp only [Zx, cond_true]
      rw [Qpf h hm hi' hI.len hI.rng, Option.bind_some, XJ hi, Option.bind_some, Int.toNat_natCast, XJ (by simpa using hi), J8 hi, if_pos rfl, Option.bind_some]
      have hleast : ∀ K, Qbj p K → (∀ k, k < p.Noise.length → gi start k ≤ gi K k) → Yh p m i box ≤ gi K i := fun K hK hsK => Int.le_trans (Qym h (hI.least K hK hsK)) (hK m hm i hi')
      by_cases hbig : 100000 < Yh p m i box
      · rw [show decide (100000 < Yh p m i box) = true by simpa using hbig, cond_true]
        refine Runs.some ?_
        refine .inr ⟨rfl, fun K hK hsK hle => ?_⟩
        have := hleast K hK hsK
        have := hle i hi'
        omega
      · rw [show decide (100000 < Yh p m i box) = false by simpa using hbig, cond_false]
        have hg : ∀ k, gi (box.set i (Yh p m i box)) k = if i = k then Yh p m i box else gi box k := fun k => J8 hi
        have hI' : LbI p start (box.set i (Yh p m i box)) := by
          refine ⟨by rw [List.length_set]; exact hI.len, fun k hk => ?_, fun k hk => ?_, fun K hK hsK k hk => ?_⟩
          · rw [hg]; split
            · rename_i e; subst e; have := hI.from_ i hi'; omega
            · exact hI.from_ k hk
          · rw [hg]; split
            · rename_i e; subst e; have := hI.rng i hi'; omega
            · exact hI.rng k hk
          · rw [hg]; split
            · rename_i e; subst e; exact hleast K hK hsK
            · exact hI.least K hK hsK k hk
        rw [Qnc h hI'.len hI'.rng, Option.bind_some]
        refine Runs.some ⟨⟨hI', rfl⟩, ?_⟩
        have h1 : QY (fun k => 100000 - gi (box.set i (Yh p m i box)) k) p.Noise.length < QY (fun k => 100000 - gi box k) p.Noise.length := by
          refine Qrc hi' (fun k hk => ?_) ?_
          · rw [hg]; split
            · rename_i e; subst e; omega
            · omega
          · simp only [hg, if_pos]; omega
        have h2 : 0 ≤ QY (fun k => 100000 - gi (box.set i (Yh p m i box)) k) p.Noise.length := Qlw fun k hk => by have := hI'.rng k hk; omega
        show (QY (fun k => 100000 - gi (box.set i (Yh p m i box)) k) p.Noise.length).toNat < (QY (fun k => 100000 - gi box k) p.Noise.length).toNat
        omega
  · intro o ho
    cases o with
    | inl r => exact Runs.jl ho
    | inr b => exact Runs.some ho
theorem LbR.eq {p : LevitatePlant} {start : List Int} {r s : List Int × Int} (hr : LbR p start r) (hs : LbR p start s) : r = s := by
  rcases hr with ⟨h1, h2⟩ | ⟨h1, h2⟩ <;> rcases hs with ⟨h3, h4⟩ | ⟨h3, h4⟩
  · refine Prod.ext (Qoy (by rw [h2.len, h4.len]) fun k hk => ?_) (by rw [h1, h3])
    rw [h2.len] at hk
    exact Int.le_antisymm (h2.least _ h4.kept h4.from_ k hk) (h4.least _ h2.kept h2.from_ k hk)
  · exact absurd h2.le (h4 _ h2.kept h2.from_)
  · exact absurd h4.le (h2 _ h4.kept h4.from_)
  · rw [h1, h3]
end Go.Gw

end
section
set_option maxRecDepth 4096
set_option linter.unusedSimpArgs false
set_option linter.unusedVariables false
namespace Go.Gw
open Go

theorem Qdl (x : Int) : IntKind.wrap .u64 x = x % 18446744073709551616 := by simp [IntKind.wrap, IntKind.bits, IntKind.signed]
def Q0 (x : Int) : Arr3_U64 := ⟨x % 18446744073709551616, x / 18446744073709551616 % 18446744073709551616, x / 340282366920938463463374607431768211456 % 18446744073709551616⟩
theorem Qma {x : Int} {a b c : Int} (h0 : x % 18446744073709551616 = a) (h1 : x / 18446744073709551616 % 18446744073709551616 = b) (h2 : x / 340282366920938463463374607431768211456 % 18446744073709551616 = c) : Q0 x = ⟨a, b, c⟩ := by
  subst h0 h1 h2; rfl
theorem QDt {x y : Int} (h : x % 6277101735386680763835789423207666416102355444464034512896 = y % 6277101735386680763835789423207666416102355444464034512896) : Q0 x = Q0 y := by
  unfold Q0; congr 1
  · omega
  · omega
  · omega
theorem QDu {x y : Int} (h : Q0 x = Q0 y) : x % 6277101735386680763835789423207666416102355444464034512896 = y % 6277101735386680763835789423207666416102355444464034512896 := by
  unfold Q0 at h
  simp only [Arr3_U64.mk.injEq] at h
  omega
theorem Qqx (x : Int) (k : Nat) (hk : k ≤ 64) : YV .u64 x (k : Int) = some (x / 2 ^ k) := by
  unfold YV
  rw [if_pos ⟨by omega, by simp [IntKind.bits]; omega⟩, Int.toNat_natCast, Int.fdiv_eq_ediv_of_nonneg _ (Int.le_of_lt (Int.pow_pos (by decide)))]
theorem Qhg (x : Int) (k : Nat) (hk : k ≤ 64) : YV .i64 x (k : Int) = some (x / 2 ^ k) := by
  unfold YV
  rw [if_pos ⟨by omega, by simp [IntKind.bits]; omega⟩, Int.toNat_natCast, Int.fdiv_eq_ediv_of_nonneg _ (Int.le_of_lt (Int.pow_pos (by decide)))]
theorem Zf {n : Int} (h : -9223372036854775808 ≤ n ∧ n ≤ 9223372036854775807) : Y0 n = some (Q0 n) := by
  unfold Y0
  rw [show (63 : Int) = ((63 : Nat) : Int) from rfl, Qhg n 63 (by omega), Option.bind_some, Qdl, Qdl]
  congr 1
  symm
  simp only [show ((2 : Int) ^ 63) = 9223372036854775808 by decide]
  have h1 : n / 340282366920938463463374607431768211456 = n / 9223372036854775808 := by omega
  have h2 : n / 18446744073709551616 = n / 9223372036854775808 := by omega
  refine Qma rfl ?_ ?_
  · rw [h2]
  · rw [h1]
theorem Qtt (x : Int) : Js (Q0 x) = some (decide (3138550867693340381917894711603833208051177722232017256448 ≤ x % 6277101735386680763835789423207666416102355444464034512896)) := by
  unfold Js
  rw [show (63 : Int) = ((63 : Nat) : Int) from rfl, Qqx _ 63 (by omega), Option.bind_some]
  congr 1
  rw [decide_eq_decide]
  simp only [Q0]
  omega
theorem Qbl {a b c : Int} (h0 : 0 ≤ a) (h1 : 0 ≤ b) (h2 : 0 ≤ c ∧ c ≤ 1) : XR a b c = some ((a + b + c) % 18446744073709551616, (a + b + c) / 18446744073709551616) := by
  unfold XR; rw [if_pos ⟨h0, h1, h2⟩]
theorem Zp {σ β : Type} {step : σ → Option (σ ⊕ β)} {s s' : σ} {r : Option β} (h : step s = some (.inl s')) (h2 : loop step s' = r) : loop step s = r := by rw [Yg h]; exact h2
theorem Qnk (x : Int) : x / 340282366920938463463374607431768211456 = x / 18446744073709551616 / 18446744073709551616 := by omega
theorem Qgm (x y : Int) : Qct (Q0 x) (Q0 y) = some (Q0 (x + y)) := by
  unfold Qct
  have hl : loop (Qov (Q0 x) (Q0 y)) (0, 0, 0, 0, 0) = some ((Q0 (x + y)).e0, (Q0 (x + y)).e1, (Q0 (x + y)).e2) := by
    simp only [Q0]
    generalize hx0 : x % 18446744073709551616 = x0
    generalize hx1 : x / 18446744073709551616 % 18446744073709551616 = x1
    generalize hx2 : x / 340282366920938463463374607431768211456 % 18446744073709551616 = x2
    generalize hy0 : y % 18446744073709551616 = y0
    generalize hy1 : y / 18446744073709551616 % 18446744073709551616 = y1
    generalize hy2 : y / 340282366920938463463374607431768211456 % 18446744073709551616 = y2
    have a0 : XR x0 y0 0 = some ((x0 + y0 + 0) % 18446744073709551616, (x0 + y0 + 0) / 18446744073709551616) := Qbl (by omega) (by omega) (by omega)
    generalize hc0 : (x0 + y0 + 0) / 18446744073709551616 = c0 at a0
    have a1 : XR x1 y1 c0 = some ((x1 + y1 + c0) % 18446744073709551616, (x1 + y1 + c0) / 18446744073709551616) := Qbl (by omega) (by omega) (by omega)
    generalize hc1 : (x1 + y1 + c0) / 18446744073709551616 = c1 at a1
    have a2 : XR x2 y2 c1 = some ((x2 + y2 + c1) % 18446744073709551616, (x2 + y2 + c1) / 18446744073709551616) := Qbl (by omega) (by omega) (by omega)
    refine Zp (s' := (c0, 1, (x0 + y0 + 0) % 18446744073709551616, 0, 0)) ?_ (Zp (s' := (c1, 2, (x0 + y0 + 0) % 18446744073709551616, (x1 + y1 + c0) % 18446744073709551616, 0)) ?_ (Zp (s' := ((x2 + y2 + c1) / 18446744073709551616, 3, (x0 + y0 + 0) % 18446744073709551616, (x1 + y1 + c0) % 18446744073709551616, (x2 + y2 + c1) % 18446744073709551616)) ?_ ((XO (o := ((x0 + y0 + 0) % 18446744073709551616, (x1 + y1 + c0) % 18446744073709551616, (x2 + y2 + c1) % 18446744073709551616)) rfl).trans ?_)))
    · show (Option.bind (XR x0 y0 0) fun r => _) = _
      rw [a0]; rfl
    · show (Option.bind (XR x1 y1 c0) fun r => _) = _
      rw [a1]; rfl
    · show (Option.bind (XR x2 y2 c1) fun r => _) = _
      rw [a2]; rfl
    · have k1 : (x + y) / 18446744073709551616 = x / 18446744073709551616 + y / 18446744073709551616 + c0 := by omega
      have k2 : (x + y) / 18446744073709551616 / 18446744073709551616 = x / 18446744073709551616 / 18446744073709551616 + y / 18446744073709551616 / 18446744073709551616 + c1 := by rw [k1]; omega
      rw [Qnk] at hx2 hy2
      rw [Qnk (x + y), k2, k1]
      congr 2
      · omega
      · congr 1
        · omega
        · omega
  rw [hl]; rfl

theorem Qic (x : Int) (h : 0 ≤ x ∧ x < 18446744073709551616) : Xb .u64 x 4294967295 = x % 4294967296 := by
  unfold Xb
  rw [Qdl]
  have e1 : (BitVec.ofInt IntKind.u64.bits x &&& BitVec.ofInt IntKind.u64.bits 4294967295).toNat = x.toNat % 4294967296 := by
    rw [BitVec.toNat_and]
    have h1 : (BitVec.ofInt IntKind.u64.bits x).toNat = x.toNat := by
      rw [BitVec.toNat_ofInt]
      have : ((2 ^ IntKind.u64.bits : Nat) : Int) = 18446744073709551616 := by decide
      rw [this]; omega
    have h2 : (BitVec.ofInt IntKind.u64.bits 4294967295).toNat = 2 ^ 32 - 1 := by decide
    rw [h1, h2, Nat.and_two_pow_sub_one_eq_mod]
  rw [e1]; omega
theorem ZC {a b m n : Int} (ha : 0 ≤ a ∧ a ≤ m) (hb : 0 ≤ b ∧ b ≤ n) : 0 ≤ a * b ∧ a * b ≤ m * n :=
  ⟨Int.mul_nonneg ha.1 hb.1, Int.mul_le_mul ha.2 hb.2 hb.1 (by omega)⟩
theorem Qyj {x y : Int} (hx : 0 ≤ x ∧ x < 18446744073709551616) (hy : 0 ≤ y ∧ y < 18446744073709551616) : ZB x y = some (x * y / 18446744073709551616, x * y % 18446744073709551616) := by
  unfold ZB
  simp only [show (32 : Int) = ((32 : Nat) : Int) from rfl, Qqx _ 32 (by omega), Option.bind_some, Qdl, Qic x hx, Qic y hy]
  simp only [show ((2 : Int) ^ 32) = 4294967296 by decide]
  generalize hx1 : x / 4294967296 = x1
  generalize hx0 : x % 4294967296 = x0
  generalize hy1 : y / 4294967296 = y1
  generalize hy0 : y % 4294967296 = y0
  have e : x * y = (x1 * y1) * 18446744073709551616 + (x1 * y0 + x0 * y1) * 4294967296 + x0 * y0 := by
    have ex : x = x1 * 4294967296 + x0 := by omega
    have ey : y = y1 * 4294967296 + y0 := by omega
    rw [ex, ey]; grind
  have b00 := ZC (a := x0) (b := y0) (m := 4294967295) (n := 4294967295) (by omega) (by omega)
  have b10 := ZC (a := x1) (b := y0) (m := 4294967295) (n := 4294967295) (by omega) (by omega)
  have b01 := ZC (a := x0) (b := y1) (m := 4294967295) (n := 4294967295) (by omega) (by omega)
  have b11 := ZC (a := x1) (b := y1) (m := 4294967295) (n := 4294967295) (by omega) (by omega)
  rw [e]
  generalize x0 * y0 = p00 at *
  generalize x1 * y0 = p10 at *
  generalize x0 * y1 = p01 at *
  generalize x1 * y1 = p11 at *
  rw [Qic _ (by omega)]
  congr 2
  omega
theorem Qar {o a b v : Int} (ho : 0 ≤ o ∧ o < 18446744073709551616) (ha : 0 ≤ a ∧ a < 18446744073709551616) (hb : 0 ≤ b ∧ b < 18446744073709551616) (hv : 0 ≤ v ∧ v < 18446744073709551616) {β : Type} (f : Int → Int → Option β) :
    (Option.bind (ZB a b) fun r12 => Option.bind (some o) fun el18 => Option.bind (XR el18 r12.2 0) fun r20 => Option.bind (XR r20.1 v 0) fun r23 =>
      Option.bind (some o) fun _ => f (IntKind.wrap .u64 ((IntKind.wrap .u64 (r12.1 + r20.2)) + r23.2)) r23.1) = f ((o + a * b + v) / 18446744073709551616) ((o + a * b + v) % 18446744073709551616) := by
  have hab := ZC (a := a) (b := b) (m := 18446744073709551615) (n := 18446744073709551615) (by omega) (by omega)
  rw [Qyj ha hb]
  generalize a * b = ab at *
  simp only [Option.bind_some]
  rw [Qbl (by omega) (by omega) (by omega)]
  simp only [Option.bind_some]
  rw [Qbl (by omega) (by omega) (by omega)]
  simp only [Option.bind_some, Qdl]
  congr 1
  · omega
  · omega
theorem Jg : w64 (0 + 0) = 0 ∧ w64 (0 + 1) = 1 ∧ w64 (1 + 1) = 2 ∧ w64 (2 + 1) = 3 ∧ w64 (0 + 2) = 2 ∧ w64 (0 + 3) = 3 ∧ w64 (1 + 0) = 1 ∧ w64 (1 + 2) = 3 ∧ w64 (2 + 0) = 2 := by decide
section
variable (a y0 y1 y2 v o0 o1 o2 : Int)
theorem QDd : X5 a ⟨y0, y1, y2⟩ 0 (v, 0, o0, o1, o2) = (Option.bind (ZB a y0) fun r12 => Option.bind (some o0) fun el18 => Option.bind (XR el18 r12.2 0) fun r20 => Option.bind (XR r20.1 v 0) fun r23 =>
      Option.bind (some o0) fun _ => (fun v s => some (Sum.inl (v, 1, s, o1, o2))) (IntKind.wrap .u64 ((IntKind.wrap .u64 (r12.1 + r20.2)) + r23.2)) r23.1) := by
  simp only [X5, Jg]; rfl
theorem QDe : X5 a ⟨y0, y1, y2⟩ 0 (v, 1, o0, o1, o2) = (Option.bind (ZB a y1) fun r12 => Option.bind (some o1) fun el18 => Option.bind (XR el18 r12.2 0) fun r20 => Option.bind (XR r20.1 v 0) fun r23 =>
      Option.bind (some o1) fun _ => (fun v s => some (Sum.inl (v, 2, o0, s, o2))) (IntKind.wrap .u64 ((IntKind.wrap .u64 (r12.1 + r20.2)) + r23.2)) r23.1) := by
  simp only [X5, Jg]; rfl
theorem QDf : X5 a ⟨y0, y1, y2⟩ 0 (v, 2, o0, o1, o2) = (Option.bind (ZB a y2) fun r12 => Option.bind (some o2) fun el18 => Option.bind (XR el18 r12.2 0) fun r20 => Option.bind (XR r20.1 v 0) fun r23 =>
      Option.bind (some o2) fun _ => (fun v s => some (Sum.inl (v, 3, o0, o1, s))) (IntKind.wrap .u64 ((IntKind.wrap .u64 (r12.1 + r20.2)) + r23.2)) r23.1) := by
  simp only [X5, Jg]; rfl
theorem QDg : X5 a ⟨y0, y1, y2⟩ 0 (v, 3, o0, o1, o2) = some (.inr (o0, o1, o2)) := by
  simp only [X5, Jg]; rfl
theorem QDh : X5 a ⟨y0, y1, y2⟩ 1 (v, 0, o0, o1, o2) = (Option.bind (ZB a y0) fun r12 => Option.bind (some o1) fun el18 => Option.bind (XR el18 r12.2 0) fun r20 => Option.bind (XR r20.1 v 0) fun r23 =>
      Option.bind (some o1) fun _ => (fun v s => some (Sum.inl (v, 1, o0, s, o2))) (IntKind.wrap .u64 ((IntKind.wrap .u64 (r12.1 + r20.2)) + r23.2)) r23.1) := by
  simp only [X5, Jg]; rfl
theorem QDi : X5 a ⟨y0, y1, y2⟩ 1 (v, 1, o0, o1, o2) = (Option.bind (ZB a y1) fun r12 => Option.bind (some o2) fun el18 => Option.bind (XR el18 r12.2 0) fun r20 => Option.bind (XR r20.1 v 0) fun r23 =>
      Option.bind (some o2) fun _ => (fun v s => some (Sum.inl (v, 2, o0, o1, s))) (IntKind.wrap .u64 ((IntKind.wrap .u64 (r12.1 + r20.2)) + r23.2)) r23.1) := by
  simp only [X5, Jg]; rfl
theorem QDj : X5 a ⟨y0, y1, y2⟩ 1 (v, 2, o0, o1, o2) = some (.inr (o0, o1, o2)) := by
  simp only [X5, Jg]; rfl
theorem QDk : X5 a ⟨y0, y1, y2⟩ 2 (v, 0, o0, o1, o2) = (Option.bind (ZB a y0) fun r12 => Option.bind (some o2) fun el18 => Option.bind (XR el18 r12.2 0) fun r20 => Option.bind (XR r20.1 v 0) fun r23 =>
      Option.bind (some o2) fun _ => (fun v s => some (Sum.inl (v, 1, o0, o1, s))) (IntKind.wrap .u64 ((IntKind.wrap .u64 (r12.1 + r20.2)) + r23.2)) r23.1) := by
  simp only [X5, Jg]; rfl
theorem QDl : X5 a ⟨y0, y1, y2⟩ 2 (v, 1, o0, o1, o2) = some (.inr (o0, o1, o2)) := by
  simp only [X5, Jg]; rfl
end
abbrev TSt := (Int × Int × Int × Int × Int) ⊕ (Int × Int × Int)
theorem Jw (x y : Int) : Y6 (Q0 x) (Q0 y) = some (Q0 (x * y)) := by
  unfold Y6
  obtain ⟨x0, hx0⟩ : ∃ x0, x % 18446744073709551616 = x0 := ⟨_, rfl⟩
  obtain ⟨x1, hx1⟩ : ∃ x1, x / 18446744073709551616 % 18446744073709551616 = x1 := ⟨_, rfl⟩
  obtain ⟨x2, hx2⟩ : ∃ x2, x / 340282366920938463463374607431768211456 % 18446744073709551616 = x2 := ⟨_, rfl⟩
  obtain ⟨y0, hy0⟩ : ∃ y0, y % 18446744073709551616 = y0 := ⟨_, rfl⟩
  obtain ⟨y1, hy1⟩ : ∃ y1, y / 18446744073709551616 % 18446744073709551616 = y1 := ⟨_, rfl⟩
  obtain ⟨y2, hy2⟩ : ∃ y2, y / 340282366920938463463374607431768211456 % 18446744073709551616 = y2 := ⟨_, rfl⟩
  have ex : Q0 x = ⟨x0, x1, x2⟩ := Qma hx0 hx1 hx2
  have ey : Q0 y = ⟨y0, y1, y2⟩ := Qma hy0 hy1 hy2
  have bx0 : 0 ≤ x0 ∧ x0 < 18446744073709551616 := by omega
  have bx1 : 0 ≤ x1 ∧ x1 < 18446744073709551616 := by omega
  have bx2 : 0 ≤ x2 ∧ x2 < 18446744073709551616 := by omega
  have by0 : 0 ≤ y0 ∧ y0 < 18446744073709551616 := by omega
  have by1 : 0 ≤ y1 ∧ y1 < 18446744073709551616 := by omega
  have by2 : 0 ≤ y2 ∧ y2 < 18446744073709551616 := by omega
  have Ex : x % 6277101735386680763835789423207666416102355444464034512896 = x0 + x1 * 18446744073709551616 + x2 * 340282366920938463463374607431768211456 := by omega
  have Ey : y % 6277101735386680763835789423207666416102355444464034512896 = y0 + y1 * 18446744073709551616 + y2 * 340282366920938463463374607431768211456 := by omega
  have z0 : (0 : Int) ≤ 0 ∧ (0 : Int) < 18446744073709551616 := by omega
  -- a row of the product
  have h00 := ZC (a := x0) (b := y0) (m := 18446744073709551615) (n := 18446744073709551615) (by omega) (by omega)
  have h01 := ZC (a := x0) (b := y1) (m := 18446744073709551615) (n := 18446744073709551615) (by omega) (by omega)
  have h02 := ZC (a := x0) (b := y2) (m := 18446744073709551615) (n := 18446744073709551615) (by omega) (by omega)
  have h10 := ZC (a := x1) (b := y0) (m := 18446744073709551615) (n := 18446744073709551615) (by omega) (by omega)
  have h11 := ZC (a := x1) (b := y1) (m := 18446744073709551615) (n := 18446744073709551615) (by omega) (by omega)
  have h20 := ZC (a := x2) (b := y0) (m := 18446744073709551615) (n := 18446744073709551615) (by omega) (by omega)
  have r0 : ∀ o0 o1 o2, 0 ≤ o0 ∧ o0 < 18446744073709551616 → 0 ≤ o1 ∧ o1 < 18446744073709551616 → 0 ≤ o2 ∧ o2 < 18446744073709551616 → loop (X5 x0 ⟨y0, y1, y2⟩ 0) (0, 0, o0, o1, o2) =
      some ((o0 + x0 * y0 + 0) % 18446744073709551616, (o1 + x0 * y1 + (o0 + x0 * y0 + 0) / 18446744073709551616) % 18446744073709551616, (o2 + x0 * y2 + (o1 + x0 * y1 + (o0 + x0 * y0 + 0) / 18446744073709551616) / 18446744073709551616) % 18446744073709551616) := by
    intro o0 o1 o2 b0 b1 b2
    refine Zp ((QDd ..).trans (Qar b0 bx0 by0 (v := 0) z0 (fun v s => (some (Sum.inl (v, 1, s, o1, o2)) : Option TSt)))) ?_
    refine Zp ((QDe ..).trans (Qar b1 bx0 by1 (by omega) (fun v s => (some (Sum.inl (v, 2, _, s, o2)) : Option TSt)))) ?_
    refine Zp ((QDf ..).trans (Qar b2 bx0 by2 (by omega) (fun v s => (some (Sum.inl (v, 3, _, _, s)) : Option TSt)))) ?_
    exact XO (QDg ..)
  have r1 : ∀ o0 o1 o2, 0 ≤ o0 ∧ o0 < 18446744073709551616 → 0 ≤ o1 ∧ o1 < 18446744073709551616 → 0 ≤ o2 ∧ o2 < 18446744073709551616 → loop (X5 x1 ⟨y0, y1, y2⟩ 1) (0, 0, o0, o1, o2) =
      some (o0, (o1 + x1 * y0 + 0) % 18446744073709551616, (o2 + x1 * y1 + (o1 + x1 * y0 + 0) / 18446744073709551616) % 18446744073709551616) := by
    intro o0 o1 o2 b0 b1 b2
    refine Zp ((QDh ..).trans (Qar b1 bx1 by0 (v := 0) z0 (fun v s => (some (Sum.inl (v, 1, o0, s, o2)) : Option TSt)))) ?_
    refine Zp ((QDi ..).trans (Qar b2 bx1 by1 (by omega) (fun v s => (some (Sum.inl (v, 2, o0, _, s)) : Option TSt)))) ?_
    exact XO (QDj ..)
  have r2 : ∀ o0 o1 o2, 0 ≤ o0 ∧ o0 < 18446744073709551616 → 0 ≤ o1 ∧ o1 < 18446744073709551616 → 0 ≤ o2 ∧ o2 < 18446744073709551616 → loop (X5 x2 ⟨y0, y1, y2⟩ 2) (0, 0, o0, o1, o2) =
      some (o0, o1, (o2 + x2 * y0 + 0) % 18446744073709551616) := by
    intro o0 o1 o2 b0 b1 b2
    refine Zp ((QDk ..).trans (Qar b2 bx2 by0 (v := 0) z0 (fun v s => (some (Sum.inl (v, 1, o0, o1, s)) : Option TSt)))) ?_
    exact XO (QDl ..)
  rw [ex, ey]
  have hT : Q0 (x * y) = Q0 (x0 * y0 + (x0 * y1 + x1 * y0) * 18446744073709551616 + (x0 * y2 + x1 * y1 + x2 * y0) * 340282366920938463463374607431768211456) := by
    apply QDt
    rw [Int.mul_emod, Ex, Ey]
    rw [show (x0 + x1 * 18446744073709551616 + x2 * 340282366920938463463374607431768211456) * (y0 + y1 * 18446744073709551616 + y2 * 340282366920938463463374607431768211456) =
      (x0 * y0 + (x0 * y1 + x1 * y0) * 18446744073709551616 + (x0 * y2 + x1 * y1 + x2 * y0) * 340282366920938463463374607431768211456) + 6277101735386680763835789423207666416102355444464034512896 * (x1 * y2 + x2 * y1 + x2 * y2 * 18446744073709551616) by grind]
    rw [Int.add_mul_emod_self_left]
  rw [hT]
  have hl : loop (Qow ⟨x0, x1, x2⟩ ⟨y0, y1, y2⟩) (0, 0, 0, 0) = some ((Q0 (x0 * y0 + (x0 * y1 + x1 * y0) * 18446744073709551616 + (x0 * y2 + x1 * y1 + x2 * y0) * 340282366920938463463374607431768211456)).e0, (Q0 (x0 * y0 + (x0 * y1 + x1 * y0) * 18446744073709551616 + (x0 * y2 + x1 * y1 + x2 * y0) * 340282366920938463463374607431768211456)).e1, (Q0 (x0 * y0 + (x0 * y1 + x1 * y0) * 18446744073709551616 + (x0 * y2 + x1 * y1 + x2 * y0) * 340282366920938463463374607431768211456)).e2) := by
    have z : (0 : Int) ≤ 0 ∧ (0 : Int) < 18446744073709551616 := by omega
    have q0 := r0 0 0 0 z z z
    generalize x0 * y0 = p00 at *
    generalize x0 * y1 = p01 at *
    generalize x0 * y2 = p02 at *
    generalize hc0 : (0 + p00 + 0) % 18446744073709551616 = c0 at q0
    generalize hv0 : (0 + p00 + 0) / 18446744073709551616 = v0 at q0
    generalize hc1 : (0 + p01 + v0) % 18446744073709551616 = c1 at q0
    generalize hv1 : (0 + p01 + v0) / 18446744073709551616 = v1 at q0
    generalize hc2 : (0 + p02 + v1) % 18446744073709551616 = c2 at q0
    have q1 := r1 c0 c1 c2 (by omega) (by omega) (by omega)
    generalize x1 * y0 = p10 at *
    generalize x1 * y1 = p11 at *
    generalize hd1 : (c1 + p10 + 0) % 18446744073709551616 = d1 at q1
    generalize hw1 : (c1 + p10 + 0) / 18446744073709551616 = w1 at q1
    generalize hd2 : (c2 + p11 + w1) % 18446744073709551616 = d2 at q1
    have q2 := r2 c0 d1 d2 (by omega) (by omega) (by omega)
    generalize x2 * y0 = p20 at *
    generalize he2 : (d2 + p20 + 0) % 18446744073709551616 = e2 at q2
    refine Zp (s' := (1, c0, c1, c2)) ?_ (Zp (s' := (2, c0, d1, d2)) ?_ (Zp (s' := (3, c0, d1, e2)) ?_ ((XO (o := (c0, d1, e2)) rfl).trans ?_)))
    · show (Option.bind (loop (X5 x0 ⟨y0, y1, y2⟩ 0) (0, 0, 0, 0, 0)) fun _ => _) = _
      rw [q0]; rfl
    · show (Option.bind (loop (X5 x1 ⟨y0, y1, y2⟩ 1) (0, 0, c0, c1, c2)) fun _ => _) = _
      rw [q1]; rfl
    · show (Option.bind (loop (X5 x2 ⟨y0, y1, y2⟩ 2) (0, 0, c0, d1, d2)) fun _ => _) = _
      rw [q2]; rfl
    · simp only [Q0]
      congr 2
      · omega
      · congr 1
        · omega
        · omega
  rw [hl]; rfl
theorem Qab (x y : Int) : JN (Q0 x) (Q0 y) = some (Q0 (x - y)) := by
  unfold JN
  rw [Zf (by decide), Option.bind_some, Jw, Option.bind_some, Qgm, Option.bind_some]
  congr 2; omega
end Go.Gw

end
section
set_option maxRecDepth 4096
set_option linter.unusedSimpArgs false
set_option linter.unusedVariables false
namespace Go.Gw
open Go

def QV (l : List Nat) : List Int := l.map fun k : Nat => (k : Int)
theorem ZY (l : List Nat) : (QV l).length = l.length := by simp [QV]
theorem Qeo {l : List Nat} {k : Nat} (h : k < l.length) : idx (QV l) (k : Int) = some ((l[k] : Nat) : Int) := by
  rw [Xy (by rw [ZY]; exact h)]; simp [QV]
theorem Qqc (n : Nat) (hn : n ≤ 1073741824) : Qai (n : Int) = some (QV (List.range n)) := by
  unfold Qai
  have key : ∀ k, k ≤ n → loop (Qah (n : Int)) (([] : List Int), 0) = loop (Qah (n : Int)) (QV (List.range k), (k : Int)) := by
    intro k
    induction k with
    | zero => intro _; rfl
    | succ k ih =>
      intro hk
      rw [ih (by omega)]
      refine Yg ?_
      unfold Qah
      dsimp only
      rw [Xj (by omega), cond_true, Ym (by simp [ZY]; omega), Option.bind_some, Xe k (by omega)]
      simp [QV, List.range_succ]
  rw [key n (Nat.le_refl _)]
  have : Qah (n : Int) (QV (List.range n), (n : Int)) = some (.inr (QV (List.range n))) := by unfold Qah; dsimp only; rw [Xl]; rfl
  rw [XO this]; rfl

def g2 (f : List (List Int)) (i k : Nat) : Int := gi (gr f i) k
structure Sq (n : Nat) (f : List (List Int)) : Prop where
  len : f.length = n
  row : ∀ i, i < n → (gr f i).length = n
def Bd (n : Nat) (f : List (List Int)) (b : Int) : Prop := ∀ i k, i < n → k < n → -b ≤ g2 f i k ∧ g2 f i k ≤ b

/-! ### A loop that maps -/
theorem Qkl {α β : Type} {step : (List β × Int) → Option ((List β × Int) ⊕ List β)} (xs : List α) (g : α → β)
    (hs : ∀ k (hk : k < xs.length) (acc : List β), acc.length = k → step (acc, (k : Int)) = some (.inl (acc ++ [g xs[k]], ((k + 1 : Nat) : Int)))) (he : ∀ acc, step (acc, (xs.length : Int)) = some (.inr acc)) :
    loop step ([], 0) = some (xs.map g) := by
  have key : ∀ k, k ≤ xs.length → loop step ([], 0) = loop step ((xs.take k).map g, (k : Int)) := by
    intro k
    induction k with
    | zero => intro _; rfl
    | succ k ih =>
      intro hk
      rw [ih (by omega)]
      refine (Yg (hs k (by omega) _ (by simp; omega))).trans ?_
      have e : (xs.take (k + 1)).map g = (xs.take k).map g ++ [g xs[k]] := by rw [List.take_succ_eq_append_getElem (by omega), List.map_append]; rfl
      rw [e]
  rw [key _ (Nat.le_refl _), List.take_length]
  exact XO (he _)
theorem QDw (f : List (List Int)) (hl : f.length ≤ 1000) (hr : ∀ r ∈ f, r.length ≤ 1000 ∧ ∀ x ∈ r, -9223372036854775808 ≤ x ∧ x ≤ 9223372036854775807) : Qaq f = some (f.map fun r => r.map Q0) := by
  unfold Qaq
  rw [Qkl f (fun r => r.map Q0)]
  · rfl
  · intro k hk acc hacc
    unfold Qkh
    dsimp only
    have hm := hr _ (List.getElem_mem hk)
    rw [Xj hk, cond_true, Xy hk, Option.bind_some]
    rw [Qkl f[k] Q0]
    · rw [Option.bind_some, Ym (by simp [hacc]; omega), Option.bind_some, Xe k (by omega)]
    · intro j hj acc2 hacc2
      unfold Qkg
      dsimp only
      rw [Xj hj, cond_true, Xy hj, Option.bind_some, Zf (hm.2 _ (List.getElem_mem hj)), Option.bind_some, Ym (by simp [hacc2]; omega), Option.bind_some, Xe j (by omega)]
    · intro acc2
      unfold Qkg
      dsimp only
      rw [Xl]; rfl
  · intro acc
    unfold Qkh
    dsimp only
    rw [Xl]; rfl

/-! ### Minors -/
def wd (f : List (List Int)) : List (List Arr3_U64) := f.map fun r => r.map Q0
def XB (f : List (List Int)) : List Nat → Int
  | [] => 1
  | [a] => g2 f a a
  | [a, b] => g2 f a a * g2 f b b - g2 f a b * g2 f b a
  | [a, b, c] => g2 f a a * (g2 f b b * g2 f c c - g2 f b c * g2 f c b) + g2 f a b * (g2 f b c * g2 f c a - g2 f b a * g2 f c c) + g2 f a c * (g2 f b a * g2 f c b - g2 f b b * g2 f c a)
  | _ => 0
theorem Qvc {n : Nat} {f : List (List Int)} (h : Sq n f) {l : List Nat} (hl : ∀ x ∈ l, x < n) {i k : Nat} (hi : i < l.length) (hk : k < l.length) :
    XS (i : Int) (k : Int) (wd f) (QV l) = some (Q0 (g2 f l[i] l[k])) := by
  unfold XS
  have h1 := hl _ (List.getElem_mem hi)
  have h2 := hl _ (List.getElem_mem hk)
  have h3 : l[i] < f.length := by rw [h.len]; exact h1
  rw [Qeo hi, Option.bind_some]
  have e1 : idx (wd f) ((l[i] : Nat) : Int) = some ((gr f l[i]).map Q0) := by
    rw [Xy (by simp [wd]; exact h3)]
    simp only [wd, List.getElem_map]; rw [Zn h3]
  rw [e1, Option.bind_some, Qeo hk, Option.bind_some]
  have h4 : l[k] < (gr f l[i]).length := by rw [h.row _ h1]; exact h2
  rw [Xy (by simpa using h4), Option.bind_some, List.getElem_map, YY h4]; rfl
theorem Qpd {n : Nat} {f : List (List Int)} (h : Sq n f) {l : List Nat} (hl : ∀ x ∈ l, x < n) (h3 : l.length ≤ 3) : Qcj (wd f) (QV l) = some (Q0 (XB f l)) := by
  unfold Qcj
  have E := fun i k (hi : i < l.length) (hk : k < l.length) => Qvc h hl hi hk
  match l, h3, E with
  | [], _, _ => simp only [QV, List.map_nil, List.length_nil]; rw [show decide (((0 : Nat) : Int) = 0) = true from rfl, cond_true, Zf (by decide)]; rfl
  | [a], _, E =>
    have E00 := E 0 0 (by simp) (by simp)
    rw [show decide (((QV [a]).length : Int) = 0) = false from rfl, cond_false, show decide (((QV [a]).length : Int) = 1) = true from rfl, cond_true]
    change Option.bind (XS ((0 : Nat) : Int) ((0 : Nat) : Int) _ _) _ = _
    rw [E00]; rfl
  | [a, b], _, E =>
    have E00 := E 0 0 (by simp) (by simp)
    have E01 := E 0 1 (by simp) (by simp)
    have E10 := E 1 0 (by simp) (by simp)
    have E11 := E 1 1 (by simp) (by simp)
    rw [show decide (((QV [a, b]).length : Int) = 0) = false from rfl, cond_false, show decide (((QV [a, b]).length : Int) = 1) = false from rfl, cond_false, show decide (((QV [a, b]).length : Int) = 2) = true from rfl, cond_true]
    simp only [List.getElem_cons_zero, List.getElem_cons_succ] at E00 E01 E10 E11
    change XS 0 0 (wd f) (QV [a, b]) = _ at E00
    change XS 0 1 (wd f) (QV [a, b]) = _ at E01
    change XS 1 0 (wd f) (QV [a, b]) = _ at E10
    change XS 1 1 (wd f) (QV [a, b]) = _ at E11
    rw [E00, E01, E10, E11]
    simp only [Option.bind_some, Jw, Qab]
    rfl
  | [a, b, c], _, E =>
    have E00 : XS 0 0 (wd f) (QV [a, b, c]) = _ := E 0 0 (by simp) (by simp)
    have E01 : XS 0 1 (wd f) (QV [a, b, c]) = _ := E 0 1 (by simp) (by simp)
    have E02 : XS 0 2 (wd f) (QV [a, b, c]) = _ := E 0 2 (by simp) (by simp)
    have E10 : XS 1 0 (wd f) (QV [a, b, c]) = _ := E 1 0 (by simp) (by simp)
    have E11 : XS 1 1 (wd f) (QV [a, b, c]) = _ := E 1 1 (by simp) (by simp)
    have E12 : XS 1 2 (wd f) (QV [a, b, c]) = _ := E 1 2 (by simp) (by simp)
    have E20 : XS 2 0 (wd f) (QV [a, b, c]) = _ := E 2 0 (by simp) (by simp)
    have E21 : XS 2 1 (wd f) (QV [a, b, c]) = _ := E 2 1 (by simp) (by simp)
    have E22 : XS 2 2 (wd f) (QV [a, b, c]) = _ := E 2 2 (by simp) (by simp)
    simp only [List.getElem_cons_zero, List.getElem_cons_succ] at E00 E01 E02 E10 E11 E12 E20 E21 E22
    rw [show decide (((QV [a, b, c]).length : Int) = 0) = false from rfl, cond_false, show decide (((QV [a, b, c]).length : Int) = 1) = false from rfl, cond_false, show decide (((QV [a, b, c]).length : Int) = 2) = false from rfl, cond_false,
      Zf (by decide), Option.bind_some]
    have w1 : ∀ x, Arr3_U64.mk (Q0 x).e0 (Q0 x).e1 (Q0 x).e2 = Q0 x := fun x => rfl
    have t : (Int.tmod (w64 (0 + 1)) 3 = 1 ∧ Int.tmod (w64 (0 + 2)) 3 = 2) ∧ (Int.tmod (w64 (1 + 1)) 3 = 2 ∧ Int.tmod (w64 (1 + 2)) 3 = 0) ∧ (Int.tmod (w64 (2 + 1)) 3 = 0 ∧ Int.tmod (w64 (2 + 2)) 3 = 1) := by decide
    have s0 : Jr (wd f) (QV [a, b, c]) (0, (Q0 0).e0, (Q0 0).e1, (Q0 0).e2) = some (.inl (1, (Q0 (0 + g2 f a a * (g2 f b b * g2 f c c - g2 f b c * g2 f c b))).e0, (Q0 (0 + g2 f a a * (g2 f b b * g2 f c c - g2 f b c * g2 f c b))).e1, (Q0 (0 + g2 f a a * (g2 f b b * g2 f c c - g2 f b c * g2 f c b))).e2)) := by
      simp only [Jr, show decide ((0 : Int) < 3) = true from rfl, cond_true, t, E00, E11, E22, E12, E21, Option.bind_some, Jw, Qab, w1, Qgm]; rfl
    have s1 : ∀ x, Jr (wd f) (QV [a, b, c]) (1, (Q0 x).e0, (Q0 x).e1, (Q0 x).e2) = some (.inl (2, (Q0 (x + g2 f a b * (g2 f b c * g2 f c a - g2 f b a * g2 f c c))).e0, (Q0 (x + g2 f a b * (g2 f b c * g2 f c a - g2 f b a * g2 f c c))).e1, (Q0 (x + g2 f a b * (g2 f b c * g2 f c a - g2 f b a * g2 f c c))).e2)) := by
      intro x
      simp only [Jr, show decide ((1 : Int) < 3) = true from rfl, cond_true, t, E01, E12, E20, E10, E22, Option.bind_some, Jw, Qab, w1, Qgm]; rfl
    have s2 : ∀ x, Jr (wd f) (QV [a, b, c]) (2, (Q0 x).e0, (Q0 x).e1, (Q0 x).e2) = some (.inl (3, (Q0 (x + g2 f a c * (g2 f b a * g2 f c b - g2 f b b * g2 f c a))).e0, (Q0 (x + g2 f a c * (g2 f b a * g2 f c b - g2 f b b * g2 f c a))).e1, (Q0 (x + g2 f a c * (g2 f b a * g2 f c b - g2 f b b * g2 f c a))).e2)) := by
      intro x
      simp only [Jr, show decide ((2 : Int) < 3) = true from rfl, cond_true, t, E02, E10, E21, E11, E20, Option.bind_some, Jw, Qab, w1, Qgm]; rfl
    have s3 : ∀ x, Jr (wd f) (QV [a, b, c]) (3, (Q0 x).e0, (Q0 x).e1, (Q0 x).e2) = some (.inr ((Q0 x).e0, (Q0 x).e1, (Q0 x).e2)) := fun x => rfl
    rw [Yg s0, Yg (s1 _), Yg (s2 _), XO (s3 _)]
    simp only [Option.bind_some, w1, XB]
    congr 2; omega

/-! ### Which forms are right -/
def Za (f : List (List Int)) (i : Nat) (row : List Int) : Option Int := fs (fun k x => if Xh 10000 x then (if g2 f k i = x then none else some 3) else some 2) 0 row
def YJ (f : List (List Int)) (r : List Int) : Bool := !decide (r.length = f.length)
def Yf (f : List (List Int)) : Int :=
  if f.length = 0 then 10 else if 3 < f.length then 8 else if f.any (YJ f) then 10 else
    match fs (Za f) 0 f with | some e => e | none => 0
theorem Qls {f : List (List Int)} (h : f.any (YJ f) = false) : Sq f.length f :=
  ⟨rfl, fun i hi => by rw [List.any_eq_false] at h; have := h _ (Qjc hi); simpa [YJ] using this⟩
theorem Qkj (f : List (List Int)) (hl : f.length < 1073741824) : Qag f = some (Yf f) := by
  unfold Qag
  simp only [YS, Option.bind_some, ZS]
  have hc : Qhh f f = some (f.any (YJ f)) := by
    unfold Qhh Qll
    rw [XZ f (fun k r => if YJ f r then some (k : Int) else none)]
    · rw [Option.bind_some, Qer (YJ f), Option.bind_some, Qep]
    · intro k hk
      unfold Qlk
      rw [Xj hk, Xy hk]
      simp only [cond_true, Option.bind_some, Qjs, YD]
      exact Qeq (Xe k (by omega))
    · unfold Qlk
      rw [Xl]; rfl
  have e1 : (decide ((0 : Int) < (f.length : Int))) = !decide (f.length = 0) := by rw [Bool.eq_iff_iff, Bool.not_eq_true', decide_eq_true_iff, decide_eq_false_iff_not]; omega
  have e2 : (decide ((f.length : Int) ≤ 3)) = !decide (3 < f.length) := by rw [Bool.eq_iff_iff, Bool.not_eq_true', decide_eq_true_iff, decide_eq_false_iff_not]; omega
  rw [e1, e2, hc]
  unfold Yf
  by_cases h1 : f.length = 0
  · simp [h1]
  · by_cases h2 : 3 < f.length
    · simp [h1, h2]
    · cases h3 : f.any (YJ f) with
      | true => simp [h1, h2]
      | false =>
        have hq := Qls h3
        have hloop : loop (Qfi f) 0 = some (oi (fs (Za f) 0 f)) := by
          refine XZ f _ (fun i hi => ?_) ?_
          · unfold Qfi
            rw [Xj hi, cond_true, Xy hi, Option.bind_some]
            have hri : f[i].length = f.length := by rw [Zn hi]; exact hq.row i hi
            have hin : loop (Qfh f[i] f (i : Int)) 0 = some (oi ((Za f i f[i]).map fun r => (.inr (.inl r) : Int ⊕ (Int ⊕ Unit)))) := by
              rw [XZ f[i] (fun k x => (if Xh 10000 x then (if g2 f k i = x then none else some (3 : Int)) else some 2).map fun r => (.inr (.inl r) : Int ⊕ (Int ⊕ Unit)))]
              · rw [JO (fun r => (.inr (.inl r) : Int ⊕ (Int ⊕ Unit)))]; rfl
              · intro k hk
                have hkf : k < f.length := by omega
                have hki : i < (gr f k).length := by rw [hq.row k hkf]; exact hi
                unfold Qfh
                rw [Xj hk, cond_true, Xy hk, Option.bind_some, ZT hkf, Option.bind_some, XJ hki, Option.bind_some]
                simp only [Qkn _ _ (show (0 : Int) ≤ 10000 ∧ (10000 : Int) ≤ 4611686018427387904 by decide), Option.bind_some, YS, ZS]
                rw [Xe k (by omega)]
                show _ = XD (Option.map _ (if Xh 10000 f[i][k] then (if g2 f k i = f[i][k] then none else some 3) else some 2)) k
                unfold g2
                cases Xh 10000 f[i][k] <;> by_cases h5 : gi (gr f k) i = f[i][k] <;> simp [h5, XD]
              · unfold Qfh
                rw [Xl]; rfl
            rw [hin, Option.bind_some, Xe i (by omega)]
            cases Za f i f[i] <;> rfl
          · unfold Qfi
            rw [Xl]; rfl
        simp only [h1, h2, hloop, decide_false, Bool.not_false, cond_true, if_true, if_false, decide_true, Bool.not_true, cond_false, Option.bind_some, Bool.false_eq_true]
        cases fs (Za f) 0 f <;> rfl
structure Rf (f : List (List Int)) : Prop where
  n1 : 1 ≤ f.length
  n3 : f.length ≤ 3
  sq : Sq f.length f
  bd : Bd f.length f 10000
  sym : ∀ i k, i < f.length → k < f.length → g2 f k i = g2 f i k
theorem frmE_right {f : List (List Int)} : Yf f = 0 ↔ Rf f := by
  constructor
  · intro h
    unfold Yf at h
    by_cases h1 : f.length = 0
    · simp [h1] at h
    · by_cases h2 : 3 < f.length
      · simp [h1, h2] at h
      · cases h3 : f.any (YJ f) with
        | true => simp [h1, h2, h3] at h
        | false =>
          have hq := Qls h3
          simp only [h1, h2, h3, if_false, Bool.false_eq_true] at h
          cases h4 : fs (Za f) 0 f with
          | some e =>
            simp only [h4] at h
            obtain ⟨i, hi, h5⟩ := Zm h4
            obtain ⟨k, hk, h6⟩ := Zm h5
            subst h
            split at h6
            · split at h6 <;> simp at h6
            · simp at h6
          | none =>
            rw [fs_none] at h4
            have key : ∀ i k, i < f.length → k < f.length → Xh 10000 (g2 f i k) = true ∧ g2 f k i = g2 f i k := by
              intro i k hi hk
              have h5 := h4 i hi
              unfold Za at h5
              rw [fs_none] at h5
              have hr : f[i].length = f.length := by rw [Zn hi]; exact hq.row i hi
              have h6 := h5 k (by omega)
              have e : f[i][k] = g2 f i k := by unfold g2; rw [YY (by omega)]; congr 1; exact Zn hi
              simp only [Nat.zero_add, e] at h6
              split at h6
              · rename_i hs
                split at h6
                · rename_i hy; exact ⟨hs, hy⟩
                · cases h6
              · cases h6
            exact ⟨by omega, by omega, hq, fun i k hi hk => (ZH _ _).1 (key i k hi hk).1, fun i k hi hk => (key i k hi hk).2⟩
  · intro h
    have h3 : f.any (YJ f) = false := by
      rw [List.any_eq_false]
      intro r hr
      obtain ⟨i, hi, rfl⟩ := List.getElem_of_mem hr
      have := h.sq.row i hi
      rw [← Zn hi] at this
      simp [YJ, this]
    have h4 : fs (Za f) 0 f = none := by
      rw [fs_none]
      intro i hi
      unfold Za
      rw [fs_none]
      intro k hk
      have hr : f[i].length = f.length := by rw [Zn hi]; exact h.sq.row i hi
      have hk' : k < f.length := by omega
      have e : f[i][k] = g2 f i k := by unfold g2; rw [YY (by omega)]; congr 1; exact Zn hi
      simp only [Nat.zero_add, e]
      rw [if_pos ((ZH _ _).2 (h.bd i k hi hk')), if_pos (h.sym i k hi hk')]
    unfold Yf
    rw [if_neg (by have := h.n1; omega), if_neg (by have := h.n3; omega), h3, h4]; rfl
end Go.Gw

end
section
set_option maxRecDepth 4096
set_option linter.unusedSimpArgs false
set_option linter.unusedVariables false
namespace Go.Gw
open Go

theorem QDr (x q : Int) : w64 (x + 18446744073709551616 * q) = w64 x := by simp only [Qhq]; omega
theorem QDq (x : Int) : ∃ q, w64 x = x + 18446744073709551616 * q := ⟨(w64 x - x) / 18446744073709551616, by simp only [Qhq]; omega⟩
theorem Qrr (a b : Int) : w64 (w64 a * b) = w64 (a * b) := by
  obtain ⟨q, hq⟩ := QDq a
  rw [hq, Int.add_mul, Int.mul_assoc, QDr]
theorem Qrs (a b : Int) : w64 (a * w64 b) = w64 (a * b) := by rw [Int.mul_comm, Qrr, Int.mul_comm]
theorem Qas {β : Type} {step : (List β × Int) → Option ((List β × Int) ⊕ List β)} (n : Nat) (g : Nat → β)
    (hs : ∀ k, k < n → ∀ acc : List β, acc.length = k → step (acc, (k : Int)) = some (.inl (acc ++ [g k], ((k + 1 : Nat) : Int)))) (he : ∀ acc, step (acc, (n : Int)) = some (.inr acc)) :
    loop step ([], 0) = some ((List.range n).map g) := by
  have key : ∀ k, k ≤ n → loop step ([], 0) = loop step ((List.range k).map g, (k : Int)) := by
    intro k
    induction k with
    | zero => intro _; rfl
    | succ k ih =>
      intro hk
      rw [ih (by omega)]
      refine (Yg (hs k (by omega) _ (by simp))).trans ?_
      have e : (List.range (k + 1)).map g = (List.range k).map g ++ [g k] := by rw [List.range_succ, List.map_append]; rfl
      rw [e]
  rw [key _ (Nat.le_refl _)]
  exact XO (he _)
def Zr (n : Nat) (g : Nat → Int) : List Int := (List.range n).map g
theorem JT (n : Nat) (g : Nat → Int) : (Zr n g).length = n := by simp [Zr]
theorem J9 {n : Nat} {g : Nat → Int} {k : Nat} (h : k < n) : gi (Zr n g) k = g k := by rw [← YY (by rw [JT]; exact h)]; simp [Zr]
def JS (n : Nat) (g : Nat → Nat → Int) : List (List Int) := (List.range n).map fun i => Zr n (g i)
theorem Qrf (n : Nat) (g : Nat → Nat → Int) : (JS n g).length = n := by simp [JS]
theorem Qoa {n : Nat} {g : Nat → Nat → Int} {i : Nat} (h : i < n) : gr (JS n g) i = Zr n (g i) := by rw [← Zn (by rw [Qrf]; exact h)]; simp [JS]
theorem Qem {n : Nat} {g : Nat → Nat → Int} {i k : Nat} (hi : i < n) (hk : k < n) : g2 (JS n g) i k = g i k := by unfold g2; rw [Qoa hi, J9 hk]
theorem QCt (n : Nat) (g : Nat → Nat → Int) : Sq n (JS n g) := ⟨Qrf n g, fun i hi => by rw [Qoa hi, JT]⟩

/-! ### Values -/
theorem Qio {a b : List Int} (h : a.length ≤ b.length) (hl : a.length < 1073741824) : Qaf a b = some (w64 (QY (fun k => gi a k * gi b k) a.length)) := by
  unfold Qaf
  rw [Qgb a.length (fun k => gi a k * gi b k)]
  · rfl
  · intro k hk acc
    unfold Qjo
    dsimp only
    rw [Xj hk, cond_true, XJ hk, Option.bind_some, XJ (by omega), Option.bind_some, Jf, Xe k (by omega)]
  · intro acc
    unfold Qjo
    dsimp only
    rw [Xl]; rfl
def XV (n : Nat) (f : List (List Int)) (x : List Int) : Int := QY (fun i => gi x i * QY (fun k => g2 f i k * gi x k) n) n
theorem Qrq {n : Nat} {f : List (List Int)} (h : Sq n f) {x : List Int} (hx : x.length = n) (hn : n < 1073741824) : Qcs f x = some (w64 (XV n f x)) := by
  unfold Qcs
  rw [Qgb n (fun i => gi x i * QY (fun k => g2 f i k * gi x k) n)]
  · rfl
  · intro k hk acc
    unfold Qkf
    dsimp only
    have hr := h.row k hk
    rw [h.len, Xj hk, cond_true, ZT (by rw [h.len]; exact hk), Option.bind_some, XJ (by omega), Option.bind_some, Qio (by omega) (by omega), Option.bind_some, Jf, Xe k (by omega), hr]
    congr 3
    rw [← Jf, Qrs, Jf]; rfl
  · intro acc
    unfold Qkf
    dsimp only
    rw [h.len, Xl]; rfl

/-! ### The worst disturbance -/
theorem Qib {q : Int} (h : 0 ≤ q ∧ q < 4611686018427387904) : Xb .i64 q 1 = q % 2 := by
  unfold Xb
  have e1 : (BitVec.ofInt IntKind.i64.bits q &&& BitVec.ofInt IntKind.i64.bits 1).toNat = q.toNat % 2 := by
    rw [BitVec.toNat_and]
    have h1 : (BitVec.ofInt IntKind.i64.bits q).toNat = q.toNat := by
      rw [BitVec.toNat_ofInt]
      have : ((2 ^ IntKind.i64.bits : Nat) : Int) = 18446744073709551616 := by decide
      rw [this]; omega
    have h2 : (BitVec.ofInt IntKind.i64.bits 1).toNat = 1 := by decide
    rw [h1, h2, Nat.and_one_is_mod]
  rw [e1]
  show w64 _ = _
  rw [Xd (by omega)]; omega
def ZF (s i : Nat) : Int := 1 - 2 * ((s / 2 ^ i % 2 : Nat) : Int)
def xv (p : LevitatePlant) (s : Nat) : List Int := Zr p.Noise.length fun i => (gi p.Noise i + 1) * ZF s i
def wst (v : Nat → Int) : Nat → Int
  | 0 => 0
  | s + 1 => if s = 0 ∨ wst v s < v s then v s else wst v s
theorem Qmb (v : Nat → Int) : ∀ N, 1 ≤ N → (∃ s, s < N ∧ wst v N = v s) ∧ ∀ s, s < N → v s ≤ wst v N
  | 0, h => by omega
  | N + 1, _ => by
    simp only [wst]
    by_cases h0 : N = 0
    · subst h0
      refine ⟨⟨0, by omega, by simp⟩, fun s hs => ?_⟩
      have : s = 0 := by omega
      subst this; simp
    · obtain ⟨⟨s, hs, he⟩, hm⟩ := Qmb v N (by omega)
      by_cases h1 : wst v N < v N
      · rw [if_pos (.inr h1)]
        refine ⟨⟨N, by omega, rfl⟩, fun t ht => ?_⟩
        by_cases htn : t = N
        · subst htn; omega
        · have := hm t (by omega); omega
      · rw [if_neg (by simp [h0, h1])]
        refine ⟨⟨s, by omega, he⟩, fun t ht => ?_⟩
        by_cases htn : t = N
        · subst htn; omega
        · exact hm t (by omega)
def Zg (p : LevitatePlant) (f : List (List Int)) : Int := wst (fun s => XV p.Noise.length f (xv p s)) (2 ^ p.Noise.length)
theorem XX {a b A B : Int} (ha : -A ≤ a ∧ a ≤ A) (hb : -B ≤ b ∧ b ≤ B) : -(A * B) ≤ a * b ∧ a * b ≤ A * B := by
  have hA : 0 ≤ A := by omega
  have hB : 0 ≤ B := by omega
  have h1 : (a * b).natAbs ≤ A.toNat * B.toNat := by rw [Int.natAbs_mul]; exact Nat.mul_le_mul (by omega) (by omega)
  have h2 : ((A.toNat * B.toNat : Nat) : Int) = A * B := by rw [Int.natCast_mul]; congr 1 <;> omega
  omega
theorem Qra {t : Nat → Int} {B : Int} : ∀ {n : Nat}, (∀ k, k < n → -B ≤ t k ∧ t k ≤ B) → -(n * B) ≤ QY t n ∧ QY t n ≤ n * B
  | 0, _ => by simp [QY]
  | n + 1, h => by
    simp only [QY]
    have h1 := Qra (n := n) (fun k hk => h k (by omega)); have h2 := h n (by omega)
    have : ((n + 1 : Nat) : Int) * B = n * B + B := by rw [Int.natCast_add, Int.add_mul]; simp
    omega
theorem Qdh {t : Nat → Int} {B : Int} {n : Nat} (hn : n ≤ 3) (hB : 0 ≤ B) (h : ∀ k, k < n → -B ≤ t k ∧ t k ≤ B) : -(3 * B) ≤ QY t n ∧ QY t n ≤ 3 * B := by
  have h1 := Qra h
  have h2 : (n : Int) * B ≤ 3 * B := Int.mul_le_mul_of_nonneg_right (by omega) hB
  omega
theorem Qho {n : Nat} {f : List (List Int)} (hn : n ≤ 3) (hf : Bd n f 10000) {x : List Int} {X : Int} (hX : 0 ≤ X) (hx : ∀ k, k < n → -X ≤ gi x k ∧ gi x k ≤ X) : -(3 * (X * (3 * (10000 * X)))) ≤ XV n f x ∧ XV n f x ≤ 3 * (X * (3 * (10000 * X))) := by
  have h1 : 0 ≤ 10000 * X := by omega
  refine Qdh hn (Int.mul_nonneg hX (by omega)) fun i hi => XX (hx i hi) (Qdh hn h1 fun k hk => XX (hf i k hi hk) (hx k hk))
theorem QCf (s i : Nat) : ZF s i = 1 ∨ ZF s i = -1 := by unfold ZF; omega
theorem Qry {p : LevitatePlant} (h : Rp p) (s : Nat) {k : Nat} (hk : k < p.Noise.length) : -10001 ≤ gi (xv p s) k ∧ gi (xv p s) k ≤ 10001 := by
  unfold xv
  rw [J9 hk]
  have := h.noise_b hk
  rcases QCf s k with h1 | h1 <;> rw [h1] <;> omega
theorem QDy {p : LevitatePlant} (h : Rp p) {s : Nat} (hs : s < 8) : loop (Qfx ⟨p⟩ (s : Int)) ([], 0) = some (xv p s) := by
  refine Qas p.Noise.length _ (fun k hk acc hacc => ?_) (fun acc => ?_)
  · unfold Qfx
    dsimp only
    have hb := h.noise_b hk
    have hk3 : k < 3 := by have := h.n3; omega
    rw [Xj hk, cond_true, XJ hk, Option.bind_some, Qhg _ k (by omega), Option.bind_some]
    have e : (s : Int) / 2 ^ k = ((s / 2 ^ k : Nat) : Int) := by rw [Int.natCast_ediv, Int.natCast_pow]; rfl
    have hle : s / 2 ^ k ≤ s := Nat.div_le_self _ _
    have e3 : ZF s k = 1 - 2 * ((s / 2 ^ k % 2 : Nat) : Int) := rfl
    rw [e, e3]
    generalize s / 2 ^ k = Q at *
    rw [Qib (by omega), Ym (by simp [hacc]; omega), Option.bind_some, Xe k (by omega)]
    have e2 : w64 (w64 (gi p.Noise k + 1) * w64 (1 - w64 (2 * ((Q : Int) % 2)))) = (gi p.Noise k + 1) * (1 - 2 * ((Q % 2 : Nat) : Int)) := by
      rw [Xd (x := gi p.Noise k + 1) (by omega), Xd (x := 2 * _) (by omega), Xd (x := 1 - _) (by omega)]
      have e4 : 1 - 2 * ((Q : Int) % 2) = 1 - 2 * ((Q % 2 : Nat) : Int) := by omega
      rw [e4]
      have h1 : 1 - 2 * ((Q % 2 : Nat) : Int) = 1 ∨ 1 - 2 * ((Q % 2 : Nat) : Int) = -1 := by omega
      rcases h1 with h1 | h1 <;> rw [h1] <;> rw [Xd (by omega)]
    rw [e2]
  · unfold Qfx
    dsimp only
    rw [Xl]; rfl
theorem Qgn {n : Nat} (h : n ≤ 3) : 2 ^ n ≤ 8 := by
  have : 2 ^ n ≤ 2 ^ 3 := Nat.pow_le_pow_right (by decide) h
  omega
theorem Qhf {n : Nat} (h : n ≤ 3) : Jv .i64 1 (n : Int) = some ((2 ^ n : Nat) : Int) := by
  match n, h with
  | 0, _ => rfl
  | 1, _ => rfl
  | 2, _ => rfl
  | 3, _ => rfl
theorem Qrx {p : LevitatePlant} (h : Rp p) {f : List (List Int)} (hf : Sq p.Noise.length f) (hb : Bd p.Noise.length f 10000) : JM ⟨p⟩ f = some (Zg p f) := by
  unfold JM
  have h3 := h.n3
  have h8 := Qgn h3
  rw [hf.len, Qhf h3, Option.bind_some]
  have vb : ∀ s, -(3 * (10001 * (3 * (10000 * 10001)))) ≤ XV p.Noise.length f (xv p s) ∧ XV p.Noise.length f (xv p s) ≤ 3 * (10001 * (3 * (10000 * 10001))) := fun s => Qho h3 hb (by decide) (fun k hk => Qry h s hk)
  have key : ∀ s, s ≤ 2 ^ p.Noise.length → loop (Qan f ⟨p⟩ ((2 ^ p.Noise.length : Nat) : Int)) (0, 0) = loop (Qan f ⟨p⟩ ((2 ^ p.Noise.length : Nat) : Int)) (wst (fun s => XV p.Noise.length f (xv p s)) s, (s : Int)) := by
    intro s
    induction s with
    | zero => intro _; rfl
    | succ s ih =>
      intro hs
      rw [ih (by omega)]
      refine Yg ?_
      unfold Qan
      dsimp only
      rw [Xj (by omega), cond_true, QDy h (by omega), Option.bind_some, Qrq hf (by unfold xv; rw [JT]) (by omega), Option.bind_some, Xe s (by omega)]
      have := vb s
      rw [Xd (by omega)]
      have e0 : decide ((s : Int) = 0) = decide (s = 0) := YD _ 0
      rw [e0]
      simp only [wst]
      by_cases h1 : s = 0
      · simp [h1]
      · by_cases h2 : wst (fun s => XV p.Noise.length f (xv p s)) s < XV p.Noise.length f (xv p s)
        · simp [h1, h2]
        · simp [h1, h2]
  rw [key _ (Nat.le_refl _)]
  have : Qan f ⟨p⟩ ((2 ^ p.Noise.length : Nat) : Int) (wst (fun s => XV p.Noise.length f (xv p s)) (2 ^ p.Noise.length), ((2 ^ p.Noise.length : Nat) : Int)) = some (.inr (wst (fun s => XV p.Noise.length f (xv p s)) (2 ^ p.Noise.length))) := by
    unfold Qan
    dsimp only
    rw [Xl]; rfl
  rw [XO this]; rfl
/-! ### Signs of minors -/
theorem Qed {x : Int} (h : -3138550867693340381917894711603833208051177722232017256448 ≤ x ∧ x < 3138550867693340381917894711603833208051177722232017256448) : Js (Q0 x) = some (decide (x < 0)) := by
  rw [Qtt]; congr 1; rw [decide_eq_decide]; omega
theorem QDv {x : Int} (h : -3138550867693340381917894711603833208051177722232017256448 ≤ x ∧ x < 3138550867693340381917894711603833208051177722232017256448) : Q0 x = Q0 0 ↔ x = 0 := by
  constructor
  · intro e; have := QDu e; omega
  · rintro rfl; rfl
theorem Qnh {n : Nat} {f : List (List Int)} (hb : Bd n f 200000000000000) {l : List Nat} (hl : ∀ x ∈ l, x < n) : -50000000000000000000000000000000000000000000 ≤ XB f l ∧ XB f l ≤ 50000000000000000000000000000000000000000000 := by
  match l, hl with
  | [], _ => simp [XB]
  | [a], hl => have := hb a a (hl a (by simp)) (hl a (by simp)); simp only [XB]; omega
  | [a, b], hl =>
    have ha := hl a (by simp); have hb' := hl b (by simp)
    have h1 := XX (hb a a ha ha) (hb b b hb' hb')
    have h2 := XX (hb a b ha hb') (hb b a hb' ha)
    simp only [XB]; omega
  | [a, b, c], hl =>
    have ha := hl a (by simp); have hb' := hl b (by simp); have hc := hl c (by simp)
    have q1 := XX (hb b b hb' hb') (hb c c hc hc)
    have q2 := XX (hb b c hb' hc) (hb c b hc hb')
    have q3 := XX (hb b c hb' hc) (hb c a hc ha)
    have q4 := XX (hb b a hb' ha) (hb c c hc hc)
    have q5 := XX (hb b a hb' ha) (hb c b hc hb')
    have q6 := XX (hb b b hb' hb') (hb c a hc ha)
    have t1 := XX (B := 80000000000000000000000000000) (hb a a ha ha) (b := g2 f b b * g2 f c c - g2 f b c * g2 f c b) (by omega)
    have t2 := XX (B := 80000000000000000000000000000) (hb a b ha hb') (b := g2 f b c * g2 f c a - g2 f b a * g2 f c c) (by omega)
    have t3 := XX (B := 80000000000000000000000000000) (hb a c ha hc) (b := g2 f b a * g2 f c b - g2 f b b * g2 f c a) (by omega)
    simp only [XB]; omega
  | a :: b :: c :: d :: l, _ => simp [XB]
def YK (f : List (List Int)) : Bool := (List.range f.length).all fun k => decide (0 < XB f (List.range (k + 1)))
theorem Bd.mono {n : Nat} {f : List (List Int)} {a b : Int} (h : Bd n f a) (hab : a ≤ b) : Bd n f b := fun i k hi hk => by have := h i k hi hk; omega
theorem Qvn {α ρ : Type} (P : Nat → Bool) (r : ρ) : ∀ (l : List α) (k : Nat), fs (fun i (_ : α) => if P i then none else some r) k l = if (List.range l.length).all (fun j => P (k + j)) then none else some r := by
  intro l
  induction l with
  | nil => intro k; rfl
  | cons x xs ih =>
    intro k
    rw [List.length_cons, List.range_succ_eq_map]
    cases hp : P k with
    | true =>
      simp only [fs, hp, if_true, ih (k + 1), List.all_cons, Nat.add_zero, Bool.true_and, List.all_map]
      congr 2
      apply List.all_congr rfl
      intro j
      simp only [Function.comp]; rw [show k + 1 + j = k + (j + 1) by omega]
    | false => simp [fs, hp]
theorem Qrv {n : Nat} {f : List (List Int)} (h : Sq n f) (hn : n ≤ 3) (hb : Bd n f 200000000000000) : Qaq f = some (wd f) := by
  refine QDw f (by rw [h.len]; omega) fun r hr => ?_
  obtain ⟨i, hi, rfl⟩ := List.getElem_of_mem hr
  rw [h.len] at hi
  have e : f[i] = gr f i := Zn (by rw [h.len]; exact hi)
  rw [e]
  refine ⟨by rw [h.row i hi]; omega, fun x hx => ?_⟩
  obtain ⟨k, hk, rfl⟩ := Qgd hx
  rw [h.row i hi] at hk
  have := hb i k hi hk
  unfold g2 at this
  omega
theorem Qqi {f : List (List Int)} (h : Sq f.length f) (hn : f.length ≤ 3) (hb : Bd f.length f 200000000000000) : Qcq f = some (YK f) := by
  unfold Qcq
  rw [Qrv h hn hb, Option.bind_some, XZ f (fun k _ => if (fun k => decide (0 < XB f (List.range (k + 1)))) k then none else some false)]
  · rw [Qvn]
    unfold YK
    simp only [Nat.zero_add]
    cases (List.range f.length).all fun k => decide (0 < XB f (List.range (k + 1))) <;> rfl
  · intro k hk
    unfold Qkd
    rw [Xj hk, cond_true, Xe k (by omega), Qqc _ (by omega), Option.bind_some]
    have hl : ∀ x ∈ List.range (k + 1), x < f.length := fun x hx => by rw [List.mem_range] at hx; omega
    have hd := Qnh hb hl
    rw [Qpd h hl (by simp; omega), Option.bind_some, Qed (by omega), Option.bind_some]
    show _ = XD (if decide (0 < XB f (List.range (k + 1))) then none else some false) k
    generalize hD : XB f (List.range (k + 1)) = D at *
    by_cases h1 : D < 0
    · have : ¬ 0 < D := by omega
      simp [h1, this, XD]
    · by_cases h2 : D = 0
      · subst h2; simp [Zf, XD]
      · have h3 : 0 < D := by omega
        have h4 : ¬ Q0 D = Q0 0 := fun e => h2 ((QDv (by omega)).1 e)
        simp [h1, h3, h4, Zf, XD]
  · unfold Qkd
    rw [Xl]; rfl

/-! ### No value below 0 -/
def Z1 : Nat → List (List Nat)
  | 1 => [[0]]
  | 2 => [[0], [1], [0, 1]]
  | 3 => [[0], [1], [0, 1], [2], [0, 2], [1, 2], [0, 1, 2]]
  | _ => []
def Jd (n : Nat) (d : List (List Int)) : Bool := (Z1 n).all fun l => decide (0 ≤ XB d l)
theorem Zy {set : Int} {xs ys : List Int} (h : ∀ e ∈ xs, 0 ≤ e ∧ e ≤ 62) (h0 : 0 < xs.length) (h1 : xs.length ≤ 1073741824) (hy : xs.filter (fun x => !Ys set x) = ys) : J3 set xs = some ys := by
  unfold J3; rw [if_pos ⟨h, h0, h1⟩, hy]
theorem Qxw {α ρ : Type} {step : Int → Option (Int ⊕ (ρ ⊕ Unit))} (xs : List α) (f : Nat → α → Option ρ)
    (hs : ∀ k (hk : k < xs.length), step ((k + 1 : Nat) : Int) = XD (f k xs[k]) (k + 1))
    (he : step ((xs.length + 1 : Nat) : Int) = some (.inr (.inr ()))) : loop step 1 = some (oi (fs f 0 xs)) := by
  have key : ∀ j k, j + k = xs.length → loop step ((k + 1 : Nat) : Int) = some (oi (fs f k (xs.drop k))) := by
    intro j
    induction j with
    | zero =>
      intro k hk
      obtain rfl : k = xs.length := by omega
      rw [List.drop_length]
      exact XO he
    | succ j ih =>
      intro k hk
      have hlt : k < xs.length := by omega
      rw [List.drop_eq_getElem_cons hlt]
      have := hs k hlt
      simp only [fs]
      cases hp : f k xs[k] with
      | some r => rw [hp] at this; exact XO this
      | none => rw [hp] at this; rw [Yg this]; exact ih (k + 1) (by omega)
  have := key xs.length 0 (by omega)
  simpa using this
theorem QCd {n : Nat} (h1 : 1 ≤ n) (h3 : n ≤ 3) : (Z1 n).length + 1 = 2 ^ n ∧ ∀ k (hk : k < (Z1 n).length), J3 ((k + 1 : Nat) : Int) (QV (List.range n)) = some (QV (Z1 n)[k]) ∧ (∀ x ∈ (Z1 n)[k], x < n) ∧ (Z1 n)[k].length ≤ 3 := by
  match n, h1, h3 with
  | 1, _, _ =>
    refine ⟨rfl, fun k hk => ?_⟩
    match k, hk with
    | 0, _ => exact ⟨Zy (by decide) (by decide) (by decide) (show List.filter (fun x => !Ys 1 x) (QV (List.range 1)) = QV [0] by decide), show ∀ x ∈ [0], x < 1 by decide, show [0].length ≤ 3 by decide⟩
  | 2, _, _ =>
    refine ⟨rfl, fun k hk => ?_⟩
    match k, hk with
    | 0, _ => exact ⟨Zy (by decide) (by decide) (by decide) (show List.filter (fun x => !Ys 1 x) (QV (List.range 2)) = QV [0] by decide), show ∀ x ∈ [0], x < 2 by decide, show [0].length ≤ 3 by decide⟩
    | 1, _ => exact ⟨Zy (by decide) (by decide) (by decide) (show List.filter (fun x => !Ys 2 x) (QV (List.range 2)) = QV [1] by decide), show ∀ x ∈ [1], x < 2 by decide, show [1].length ≤ 3 by decide⟩
    | 2, _ => exact ⟨Zy (by decide) (by decide) (by decide) (show List.filter (fun x => !Ys 3 x) (QV (List.range 2)) = QV [0, 1] by decide), show ∀ x ∈ [0, 1], x < 2 by decide, show [0, 1].length ≤ 3 by decide⟩
  | 3, _, _ =>
    refine ⟨rfl, fun k hk => ?_⟩
    match k, hk with
    | 0, _ => exact ⟨Zy (by decide) (by decide) (by decide) (show List.filter (fun x => !Ys 1 x) (QV (List.range 3)) = QV [0] by decide), show ∀ x ∈ [0], x < 3 by decide, show [0].length ≤ 3 by decide⟩
    | 1, _ => exact ⟨Zy (by decide) (by decide) (by decide) (show List.filter (fun x => !Ys 2 x) (QV (List.range 3)) = QV [1] by decide), show ∀ x ∈ [1], x < 3 by decide, show [1].length ≤ 3 by decide⟩
    | 2, _ => exact ⟨Zy (by decide) (by decide) (by decide) (show List.filter (fun x => !Ys 3 x) (QV (List.range 3)) = QV [0, 1] by decide), show ∀ x ∈ [0, 1], x < 3 by decide, show [0, 1].length ≤ 3 by decide⟩
    | 3, _ => exact ⟨Zy (by decide) (by decide) (by decide) (show List.filter (fun x => !Ys 4 x) (QV (List.range 3)) = QV [2] by decide), show ∀ x ∈ [2], x < 3 by decide, show [2].length ≤ 3 by decide⟩
    | 4, _ => exact ⟨Zy (by decide) (by decide) (by decide) (show List.filter (fun x => !Ys 5 x) (QV (List.range 3)) = QV [0, 2] by decide), show ∀ x ∈ [0, 2], x < 3 by decide, show [0, 2].length ≤ 3 by decide⟩
    | 5, _ => exact ⟨Zy (by decide) (by decide) (by decide) (show List.filter (fun x => !Ys 6 x) (QV (List.range 3)) = QV [1, 2] by decide), show ∀ x ∈ [1, 2], x < 3 by decide, show [1, 2].length ≤ 3 by decide⟩
    | 6, _ => exact ⟨Zy (by decide) (by decide) (by decide) (show List.filter (fun x => !Ys 7 x) (QV (List.range 3)) = QV [0, 1, 2] by decide), show ∀ x ∈ [0, 1, 2], x < 3 by decide, show [0, 1, 2].length ≤ 3 by decide⟩
theorem Qyo {n : Nat} {d : List (List Int)} (h1 : 1 ≤ n) (h3 : n ≤ 3) (h : Sq n d) (hb : Bd n d 200000000000000) : Qfn d = some (Jd n d) := by
  unfold Qfn
  have hs := QCd h1 h3
  rw [Qrv h h3 hb, Option.bind_some, Qxw (Z1 n) (fun _ l => if 0 ≤ XB d l then none else some false)]
  · have : ∀ (l : List (List Nat)) t, fs (fun _ l => if 0 ≤ XB d l then none else some false) t l = if l.all (fun l => decide (0 ≤ XB d l)) then none else some false := by
      intro l
      induction l with
      | nil => intro t; rfl
      | cons y ys ih =>
        intro t
        by_cases hy : 0 ≤ XB d y
        · simp [fs, hy]; simpa using ih (t + 1)
        · simp [fs, hy]
    rw [this]
    unfold Jd
    cases (Z1 n).all fun l => decide (0 ≤ XB d l) <;> rfl
  · intro k hk
    obtain ⟨e1, e2, e3⟩ := hs.2 k hk
    unfold Qjw
    rw [h.len, Qhf h3, Option.bind_some, Xj (by omega), cond_true, Qqc n (by omega), Option.bind_some, e1, Option.bind_some, Qpd h e2 e3, Option.bind_some]
    have hd := Qnh hb e2
    rw [Qed (by omega), Option.bind_some]
    have : w64 (((k + 1 : Nat) : Int) + 1) = ((k + 1 + 1 : Nat) : Int) := Xe (k + 1) (by have := Qgn h3; omega)
    rw [this]
    generalize XB d (Z1 n)[k] = D
    by_cases h0 : D < 0
    · have : ¬ 0 ≤ D := by omega
      simp [h0, this, XD]
    · have : 0 ≤ D := by omega
      simp [h0, this, XD]
  · unfold Qjw
    rw [h.len, Qhf h3, Option.bind_some, hs.1, Xl]; rfl
end Go.Gw

end
