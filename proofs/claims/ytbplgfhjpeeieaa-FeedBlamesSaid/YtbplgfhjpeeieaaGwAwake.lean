/- Laws of the walk. Condition: each theorem says its own. -/
import Derived.Test.YtbplgfhjpeeieaaGwTwin
import Derived.Test.YtbplgfhjpeeieaaGwPlan
import Derived.IntWalk
set_option linter.unusedVariables false
set_option linter.unusedSimpArgs false
set_option linter.unusedSectionVars false
section
set_option maxRecDepth 1000000
namespace Go.Gw
open Go
theorem QBb : Quw 60 = some true := by decide +kernel
theorem QBa : Qig = some true := QIg _ QBb
end Go.Gw

end
section
set_option linter.unusedSectionVars false
namespace Go.Gw
open Go

theorem Ym {x : Int} (h : -9223372036854775808 ≤ x ∧ x ≤ 9223372036854775807) : w64 x = x := Go.IntWalk.i64_in x h

def Runs {α : Type} (e : Option α) (Q : α → Prop) : Prop := ∃ a, e = some a ∧ Q a

section
variable {α β σ μ : Type} {Q : α → Prop} {e e' : Option α}
theorem Runs.some {a : α} (h : Q a) : Runs (some a) Q := ⟨a, rfl, h⟩
theorem Runs.bind {e : Option β} {f : β → Option α} (h : Runs e fun b => Runs (f b) Q) : Runs (e.bind f) Q := by
  obtain ⟨b, rfl, a, ha, hq⟩ := h; exact ⟨a, ha, hq⟩
theorem Runs.mono {Q' : α → Prop} (h : Runs e Q) (hm : ∀ a, Q a → Q' a) : Runs e Q' := by obtain ⟨a, ha, hq⟩ := h; exact ⟨a, ha, hm _ hq⟩
theorem Runs.eq {a : α} (h : Runs e (· = a)) : e = .some a := by obtain ⟨b, hb, rfl⟩ := h; exact hb
theorem Runs.call {e : Option β} {f : β → Option α} {b : β} (h : e = .some b) (hq : Runs (f b) Q) : Runs (e.bind f) Q := by subst h; exact hq
theorem Runs.bif {b : Bool} (ht : b = true → Runs e Q) (hf : b = false → Runs e' Q) : Runs (bif b then e else e') Q := by
  cases b
  · exact hf rfl
  · exact ht rfl
theorem Runs.jl {b : α} {f : μ → Option α} (h : Q b) : Runs (jn0 (.inl b) f) Q := ⟨b, rfl, h⟩
theorem Runs.j {o : α ⊕ μ} {f : μ → Option α} (hl : ∀ b, o = .inl b → Q b) (hr : ∀ m, o = .inr m → Runs (f m) Q) : Runs (jn0 o f) Q := by
  cases o with
  | inl b => exact Runs.jl (hl b rfl)
  | inr m => exact hr m rfl

def Rnd (I : σ → Prop) (m : σ → Nat) (Q : β → Prop) (s : σ) : σ ⊕ β → Prop
  | .inl s' => I s' ∧ m s' < m s
  | .inr o => Q o
theorem Runs.loop {step : σ → Option (σ ⊕ β)} {s : σ} {Q : β → Prop} (I : σ → Prop) (m : σ → Nat) (h0 : I s) (h : ∀ s, I s → Runs (step s) (Rnd I m Q s)) : Runs (Gw.loop step s) Q := by
  generalize hk : m s = k
  induction k using Nat.strongRecOn generalizing s with
  | _ k ih =>
    obtain ⟨x, hx, hq⟩ := h s h0
    cases x with
    | inl s' =>
      rw [Qbk hx]
      exact ih (m s') (by have := hq.2; omega) hq.1 rfl
    | inr o => rw [ZQ hx]; exact ⟨o, rfl, hq⟩
theorem Zd {step : σ → Option (σ ⊕ β)} {o : β} (S : Nat → σ) (n : Nat) (h : ∀ k, k < n → step (S k) = .some (.inl (S (k + 1)))) (he : step (S n) = .some (.inr o)) : Gw.loop step (S 0) = .some o := by
  have key : ∀ j k, j + k = n → Gw.loop step (S k) = .some o := by
    intro j
    induction j with
    | zero => intro k hk; obtain rfl : k = n := by omega
              exact ZQ he
    | succ j ih => intro k hk; rw [Qbk (h k (by omega))]; exact ih (k + 1) (by omega)
  exact key n 0 (by omega)

theorem Runs.idx {xs : List β} {i : Int} {f : β → Option α} (h0 : 0 ≤ i) (h1 : i < xs.length) (h : ∀ x, xs[i.toNat]? = .some x → Runs (f x) Q) : Runs ((Gw.idx xs i).bind f) Q := by
  have hl : i.toNat < xs.length := by omega
  have e : Gw.idx xs i = .some xs[i.toNat] := by unfold Gw.idx; rw [if_pos h0, List.getElem?_eq_getElem hl]
  exact Runs.call e (h _ (List.getElem?_eq_getElem hl))
theorem Xt {xs : List β} {k : Nat} (h : k < xs.length) : Gw.idx xs (k : Int) = .some xs[k] := by
  unfold Gw.idx; rw [if_pos (by omega), Int.toNat_natCast, List.getElem?_eq_getElem h]
theorem Xt? {xs : List β} {k : Nat} : Gw.idx xs (k : Int) = xs[k]? := by
  unfold Gw.idx; rw [if_pos (by omega), Int.toNat_natCast]
theorem ZM {xs ys : List β} (h : xs.length + ys.length ≤ 1073741824) : app xs ys = .some (xs ++ ys) := by unfold app; rw [if_pos h]
end
end Go.Gw

end
section
set_option linter.unusedSectionVars false
namespace Go.Gw
section
variable {α β γ σ ρ : Type}
def XW (p : α → Bool) (res : Nat → α → ρ) : Nat → List α → ρ ⊕ Unit
  | _, [] => .inr ()
  | k, x :: xs => if p x then .inl (res k x) else XW p res (k + 1) xs
theorem ZR {step : Int → Option (Int ⊕ (ρ ⊕ Unit))} (xs : List α) (p : α → Bool) (res : Nat → α → ρ)
    (hs : ∀ k (hk : k < xs.length), step (k : Int) = (bif p xs[k] then some (.inr (.inl (res k xs[k]))) else some (.inl ((k + 1 : Nat) : Int))))
    (he : step (xs.length : Int) = some (.inr (.inr ()))) : loop step 0 = some (XW p res 0 xs) := by
  have key : ∀ j k, j + k = xs.length → loop step (k : Int) = some (XW p res k (xs.drop k)) := by
    intro j
    induction j with
    | zero =>
      intro k hk
      obtain rfl : k = xs.length := by omega
      rw [List.drop_length]
      exact ZQ he
    | succ j ih =>
      intro k hk
      have hlt : k < xs.length := by omega
      rw [List.drop_eq_getElem_cons hlt]
      have := hs k hlt
      cases hp : p xs[k] with
      | true => rw [hp] at this; simp only [XW, hp, if_true]; exact ZQ this
      | false => rw [hp] at this; simp only [XW, hp]; rw [Qbk this]; exact ih (k + 1) (by omega)
  have := key xs.length 0 (by omega)
  simpa using this

def fld (f : Nat → γ → α → γ) : Nat → γ → List α → γ
  | _, a, [] => a
  | k, a, x :: xs => fld f (k + 1) (f k a x) xs
def rng (f : Nat → γ → γ) (a : γ) : Nat → γ
  | 0 => a
  | n + 1 => f n (rng f a n)
theorem Qvf {step : σ → Option (σ ⊕ β)} (n : Nat) (f : Nat → γ → γ) (S : γ → Nat → σ) (o : γ → β) (Inv : γ → Nat → Prop) (a0 : γ) (h0 : Inv a0 0)
    (hs : ∀ k, k < n → ∀ a, Inv a k → step (S a k) = some (.inl (S (f k a) (k + 1))) ∧ Inv (f k a) (k + 1))
    (he : ∀ a, Inv a n → step (S a n) = some (.inr (o a))) : loop step (S a0 0) = some (o (rng f a0 n)) ∧ Inv (rng f a0 n) n := by
  have key : ∀ k, k ≤ n → Inv (rng f a0 k) k ∧ loop step (S a0 0) = loop step (S (rng f a0 k) k) := by
    intro k
    induction k with
    | zero => intro _; exact ⟨h0, rfl⟩
    | succ k ih =>
      intro hk
      obtain ⟨h1, h2⟩ := ih (by omega)
      have := hs k (by omega) _ h1
      exact ⟨this.2, by rw [h2, Qbk this.1]; rfl⟩
  obtain ⟨h1, h2⟩ := key n (Nat.le_refl _)
  exact ⟨by rw [h2]; exact ZQ (he _ h1), h1⟩
theorem XC (k : Nat) (h : k < 4611686018427387904) : w64 ((k : Int) + 1) = ((k + 1 : Nat) : Int) := by rw [Ym (by omega)]; omega
theorem XB {k n : Nat} (h : k < n) : decide ((k : Int) < (n : Int)) = true := by simp; omega
theorem XK (n : Nat) : decide ((n : Int) < (n : Int)) = false := by simp
end
end Go.Gw

end
section
set_option maxRecDepth 4096
namespace Go.Gw
open Go

def JG : List Int → Int
  | [] => 0
  | x :: xs => if x = 0 then JG xs else x
theorem Qaq (l : List Int) (hl : l.length < 1073741824) : Zn l = some (JG l) := by
  unfold Zn
  rw [ZR l (fun x => !decide (x = 0)) (fun _ x => x)]
  · have key : ∀ (l : List Int) k, (jn0 (XW (fun x => !decide (x = 0)) (fun _ x => x) k l) fun (_ : Unit) => some 0) = some (JG l) := by
      intro l
      induction l with
      | nil => intro k; rfl
      | cons x xs ih =>
        intro k
        by_cases h : x = 0
        · simp [XW, JG, h]; exact ih _
        · simp [XW, JG, h, jn0]
    simpa using key l 0
  · intro k hk
    unfold Qht
    rw [XB hk, Xt hk, XC k (by omega)]; rfl
  · unfold Qht
    rw [XK]; rfl
theorem J7 (b : Bool) (e : Int) : Yj b e = some (bif b then 0 else e) := by cases b <;> rfl
theorem Qbz (n lo hi : Int) : Z7 n lo hi = some (decide (lo ≤ n) && decide (n ≤ hi)) := rfl
theorem Qcj (n lo hi : Int) : Jk n lo hi = some (decide (lo ≤ n) && decide (n ≤ hi)) := rfl
theorem QPq (n m : Int) (h : 0 ≤ m) (h2 : m ≤ 9223372036854775807) : Qcz n m = some (decide (-m ≤ n) && decide (n ≤ m)) := by
  unfold Qcz
  rw [Ym (by omega), Qbz, Int.zero_sub]; rfl
theorem Qjy {α : Type} (p : α → Bool) : ∀ (l : List α) (k : Nat), (jn0 (β := Int) (XW p (fun k _ => (k : Int)) k l) fun (_ : Unit) => some (-1)) = some (match XW p (fun k _ => (k : Int)) k l with | .inl i => i | .inr _ => -1)
  | l, k => by cases XW p (fun k _ => (k : Int)) k l <;> rfl
theorem Qpg {α : Type} (p : α → Bool) : ∀ (l : List α) (k : Nat), decide (0 ≤ (match XW p (fun k _ => (k : Int)) k l with | .inl i => i | .inr _ => (-1 : Int))) = l.any p
  | [], k => by simp [XW]
  | x :: xs, k => by
    by_cases h : p x = true
    · simp [XW, h]
    · simp only [XW, h, List.any_cons]
      have := Qpg p xs (k + 1)
      simpa [h] using this
theorem Qau {α ρ : Type} {p : α → Bool} {res : Nat → α → ρ} : ∀ (l : List α) (k : Nat), (XW p res k l = .inr () ∧ l.any p = false) ∨ ∃ j x, XW p res k l = .inl (res j x) ∧ p x = true ∧ l.any p = true
  | [], k => .inl ⟨rfl, rfl⟩
  | x :: xs, k => by
    by_cases h : p x = true
    · exact .inr ⟨k, x, by simp [XW, h], h, by simp [h]⟩
    · rcases Qau xs (k + 1) (p := p) (res := res) with ⟨h1, h2⟩ | ⟨j, y, h1, h2, h3⟩
      · exact .inl ⟨by simp [XW, h, h1], by simp [h, h2]⟩
      · exact .inr ⟨j, y, by simp [XW, h, h1], h2, by simp [h3]⟩
/-! ### Ladders -/
end Go.Gw

end
section
set_option maxRecDepth 4096
namespace Go.Gw
open Go
def X6 (f : Nat → Int) (n : Nat) : Option Nat := (List.range n).find? fun i => decide (f i ≠ 0)
theorem Qda (f : Nat → Int) (n : Nat) : (X6 f n = none ∧ ∀ j, j < n → f j = 0) ∨ ∃ i, X6 f n = some i ∧ i < n ∧ f i ≠ 0 ∧ ∀ j, j < i → f j = 0 := by
  cases h : X6 f n with
  | none =>
    refine .inl ⟨rfl, fun j hj => ?_⟩
    have := List.find?_eq_none.1 h j (List.mem_range.2 hj)
    simpa using this
  | some i =>
    right
    obtain ⟨h1, h2, h3⟩ := List.find?_range_eq_some.1 h
    exact ⟨i, rfl, List.mem_range.1 h2, by simpa using h1, fun j hj => by have := h3 j hj; simpa using this⟩
theorem JU {σ ρ μ : Type} {step : σ → Option (σ ⊕ (ρ ⊕ μ))} (S : Nat → σ) (n : Nat) (f : Nat → Int) (res : Nat → Int → ρ) (o : μ)
    (hs : ∀ k, k < n → (∀ j, j < k → f j = 0) → step (S k) = if f k = 0 then some (.inl (S (k + 1))) else some (.inr (.inl (res k (f k))))) (he : (∀ j, j < n → f j = 0) → step (S n) = some (.inr (.inr o))) :
    loop step (S 0) = some (match X6 f n with | some i => .inl (res i (f i)) | none => .inr o) := by
  rcases Qda f n with ⟨h1, h2⟩ | ⟨i, h1, h2, h3, h4⟩
  · rw [h1]
    exact Zd S n (fun k hk => by rw [hs k hk fun j hj => h2 j (by omega), if_pos (h2 k hk)]) (he h2)
  · rw [h1]
    exact Zd S i (fun k hk => by rw [hs k (by omega) fun j hj => h4 j (by omega), if_pos (h4 k hk)]) (by rw [hs i h2 h4, if_neg h3])
/-! ### Names -/
def Qeb (q : Int × Nat) : Bool := (!(((decide (97 ≤ q.1)) && (decide (q.1 ≤ 122))) || ((decide (65 ≤ q.1)) && (decide (q.1 ≤ 90))))) && ((decide ((q.2 : Int) = 0)) || ((!decide (q.1 = 45)) && ((decide (q.1 < 48)) || (decide (57 < q.1)))))
def bi (s : ByteArray) : List Int := bl s
theorem Qhb (s : ByteArray) : (bi s).length = s.size := Qan s
theorem Quo {s : ByteArray} {k : Nat} (h : k < (bi s).length) : idx (α := Int) (bl s) (k : Int) = some (bi s)[k] := Xt (xs := bi s) h
def Qat (s : ByteArray) : Bool := decide (1 ≤ s.size) && (decide (s.size ≤ 12) && !((bi s).zipIdx.any Qeb))
theorem Qxx (s : ByteArray) : s = ByteArray.mk #[] ↔ s.size = 0 := by
  constructor
  · intro h; subst h; rfl
  · intro h
    cases s with
    | mk d =>
      congr 1
      exact Array.eq_empty_of_size_eq_zero h
theorem Qpz (s : ByteArray) : Qec s = some (Qat s) := by
  unfold Qec Qat
  have hlen : (bi s).zipIdx.length = s.size := by rw [List.length_zipIdx, Qhb]
  by_cases h : 1 ≤ s.size ∧ s.size ≤ 12
  · have : (decide ((s.size : Int) < 1) || decide (12 < (s.size : Int))) = false := by
      rw [decide_eq_false (by omega), decide_eq_false (by omega)]; rfl
    rw [this, cond_false, ZR (bi s).zipIdx Qeb (fun _ _ => false), Qu]
    · rcases Qau (p := Qeb) (res := fun _ _ => false) (bi s).zipIdx 0 with ⟨k1, k2⟩ | ⟨j, x, k1, k2, k3⟩
      · rw [k1, k2]; simp [h, jn0]
      · rw [k1, k3]; simp [jn0]
    · intro k hk
      rw [hlen] at hk
      unfold Qlf
      rw [XB hk, cond_true, Quo (show k < (bi s).length by rw [Qhb]; exact hk), Qu, XC k (by omega)]
      simp only [List.getElem_zipIdx, Nat.zero_add]
      rfl
    · rw [hlen]
      unfold Qlf
      rw [XK]; rfl
  · have : (decide ((s.size : Int) < 1) || decide (12 < (s.size : Int))) = true := by
      by_cases h1 : s.size < 1
      · rw [decide_eq_true (by omega)]; rfl
      · rw [decide_eq_true (p := 12 < (s.size : Int)) (by omega)]; simp
    rw [this, cond_true]
    congr 1
    by_cases h1 : 1 ≤ s.size
    · rw [decide_eq_false (p := s.size ≤ 12) (by omega)]; simp
    · rw [decide_eq_false h1]; rfl
theorem QDa (s : ByteArray) (hs : s.size ≤ 1000) : Qep s = some (Qat s) := by
  unfold Qep Qat
  have hlen : (bi s).zipIdx.length = s.size := by rw [List.length_zipIdx, Qhb]
  have ht : tob s = some (bl s) := by unfold tob; rw [if_pos (by omega)]
  rw [ht, Qu, ZR (bi s).zipIdx Qeb (fun _ _ => false), Qu]
  · rcases Qau (p := Qeb) (res := fun _ _ => false) (bi s).zipIdx 0 with ⟨k1, k2⟩ | ⟨j, x, k1, k2, k3⟩
    · rw [k1, k2]
      simp only [jn0, Bool.not_false, Bool.and_true, Option.some.injEq]
      by_cases h0 : s.size = 0
      · rw [decide_eq_true ((Qxx s).2 h0), decide_eq_false (show ¬ 1 ≤ s.size by omega)]; rfl
      · rw [decide_eq_false (fun e => h0 ((Qxx s).1 e)), decide_eq_true (show 1 ≤ s.size by omega)]
        simp only [Bool.not_false, Bool.true_and]
        by_cases h1 : s.size ≤ 12
        · rw [decide_eq_true h1, decide_eq_true (by omega)]
        · rw [decide_eq_false h1, decide_eq_false (by omega)]
    · rw [k1, k3]; simp [jn0]
  · intro k hk
    rw [hlen] at hk
    have hk2 : k < (bl s).length := by rw [Qan]; exact hk
    unfold Qhv
    rw [XB hk2, cond_true, Quo (show k < (bi s).length by rw [Qhb]; exact hk), Qu, XC k (by omega)]
    simp only [List.getElem_zipIdx, Nat.zero_add]
    rfl
  · rw [hlen, show (s.size : Int) = ((bl s).length : Int) by rw [Qan]]
    unfold Qhv
    rw [XK]; rfl
theorem QCc (l : List ByteArray) (v : ByteArray) (hl : l.length < 1000000) : Qgc l v = some (l.any fun x => decide (v = x)) := by
  unfold Qgc Qjx
  rw [ZR l (fun x => decide (v = x)) (fun k _ => (k : Int)), Qu, Qjy, Qu, Qpg]
  · intro k hk
    unfold Qjw
    rw [XB hk, Xt hk, XC k (by omega)]; rfl
  · unfold Qjw
    rw [XK]; rfl
def JV (s : ByteArray) (others : List ByteArray) : Int := if Qat s = false then 4 else if (others.any fun x => decide (s = x)) = true then 5 else 0
theorem Qvi (s : ByteArray) (others : List ByteArray) (hs : s.size ≤ 1000) (hl : others.length < 1000000) : Qco s others = some (JV s others) := by
  unfold Qco JV
  rw [QDa s hs, Qu, J7, Qu, QCc _ _ hl, Qu, J7, Qu, Qaq _ (by simp), Qu]
  cases Qat s <;> cases (others.any fun x => decide (s = x)) <;> simp [JG]
end Go.Gw

end
section
set_option maxRecDepth 4096
namespace Go.Gw
open Go
theorem Qhc {α : Type} {c : Bool} {a b : α} : (bif c then some a else some b) = some (bif c then a else b) := by cases c <;> rfl
def Qxs (l r il ir eq sh lo s0 s1 : Bool) : Int := bif (!(l || il)) || !(r || ir) then 6 else bif l && r then 23 else bif eq then 26 else bif !(sh && lo) then 2 else bif (l && !s0) || (r && !s1) then 3 else 0
def Jc (s : FeedSection) (n : Nat) : Int := Qxs (decide (s.Left = -1)) (decide (s.Right = -1)) (decide (0 ≤ s.Left) && decide (s.Left ≤ (n : Int) - 1)) (decide (0 ≤ s.Right) && decide (s.Right ≤ (n : Int) - 1)) (decide (s.Left = s.Right))
  (decide (0 ≤ s.Share) && decide (s.Share ≤ 1000)) (decide (0 ≤ s.Loss) && decide (s.Loss ≤ 500)) (decide (s.Share = 0)) (decide (s.Share = 1000))
theorem QDi (s : FeedSection) (n : Nat) (hn : n < 1000) : Qez s (n : Int) = some (Jc s n) := by
  unfold Qez Qey Jc
  rw [Ym (by omega)]
  simp only [J7, Qbz, Qu, Qhc]
  rw [Qaq _ (by simp), Qu]
  congr 1
  generalize decide (s.Left = -1) = l
  generalize decide (s.Right = -1) = r
  generalize (decide (0 ≤ s.Left) && decide (s.Left ≤ (n : Int) - 1)) = il
  generalize (decide (0 ≤ s.Right) && decide (s.Right ≤ (n : Int) - 1)) = ir
  generalize decide (s.Left = s.Right) = eq
  generalize (decide (0 ≤ s.Share) && decide (s.Share ≤ 1000)) = sh
  generalize (decide (0 ≤ s.Loss) && decide (s.Loss ≤ 500)) = lo
  generalize decide (s.Share = 0) = s0
  generalize decide (s.Share = 1000) = s1
  revert l r il ir eq sh lo s0 s1
  decide +kernel
theorem QMp (m : FeedNet) (s : FeedSection) (hn : m.Stations.length < 1000) : Qjj m s = some (Jc s m.Stations.length) := by
  unfold Qjj Qjg Jc
  rw [Ym (by omega)]
  simp only [Qcj, Qu, Qhc]
  congr 1
  generalize decide (s.Left = -1) = l
  generalize decide (s.Right = -1) = r
  generalize (decide (0 ≤ s.Left) && decide (s.Left ≤ (m.Stations.length : Int) - 1)) = il
  generalize (decide (0 ≤ s.Right) && decide (s.Right ≤ (m.Stations.length : Int) - 1)) = ir
  generalize decide (s.Left = s.Right) = eq
  generalize (decide (0 ≤ s.Share) && decide (s.Share ≤ 1000)) = sh
  generalize (decide (0 ≤ s.Loss) && decide (s.Loss ≤ 500)) = lo
  generalize decide (s.Share = 0) = s0
  generalize decide (s.Share = 1000) = s1
  revert l r il ir eq sh lo s0 s1
  decide +kernel
def Je (s : FeedStep) (n : Nat) : Int := bif !(decide (0 ≤ s.Section) && decide (s.Section ≤ (n : Int) - 1)) then 6 else bif !(decide (-20000 ≤ s.Power) && decide (s.Power ≤ 20000)) then 2 else 0
def Qjz (l : List FeedStep) (n : Nat) : Int := match X6 (fun i => (l[i]?.map (Je · n)).getD 0) l.length with | some i => (l[i]?.map (Je · n)).getD 0 | none => 0
def Qzr (e1 e2 : Bool) (o : Bool) (z : Bool) (m : Bool) (st : Int) : Int := bif !(e1 && e2) then 2 else bif !o then 9 else bif !z then 10 else bif !m then 8 else st
def J6 (t : FeedTrain) (n : Nat) : Int := Qzr (decide (0 ≤ t.Earliest) && decide (t.Earliest ≤ 1000)) (decide (0 ≤ t.Latest) && decide (t.Latest ≤ 1000)) (decide (t.Earliest ≤ t.Latest)) (decide (0 < (t.Steps.length : Int))) (decide ((t.Steps.length : Int) ≤ 12)) (Qjz t.Steps n)
theorem Qno (l : List FeedStep) (n k : Nat) (hk : k < l.length) : (l[k]?.map (Je · n)).getD 0 = Je l[k] n := by rw [List.getElem?_eq_getElem hk]; rfl
theorem QDl (t : FeedTrain) (n : Nat) (hn : n < 1000) (ht : t.Steps.length < 1000) : Qfc t (n : Int) = some (J6 t n) := by
  have key : loop (Qfb (n : Int) t) 0 = some (match X6 (fun i => (t.Steps[i]?.map (Je · n)).getD 0) t.Steps.length with | some i => .inl ((t.Steps[i]?.map (Je · n)).getD 0) | none => .inr ()) :=
    JU (fun k => (k : Int)) t.Steps.length _ (fun _ e => e) () (fun k hk _ => by
      rw [Qno _ _ _ hk]
      unfold Qfb Je
      rw [XB hk, cond_true, Xt hk, Qu, XC k (by omega), Ym (by omega)]
      simp only [J7, Qbz, Qu]
      rw [QPq _ _ (by omega) (by omega)]
      simp only [J7, Qu]
      rw [Qaq _ (by simp), Qu]
      generalize (decide (0 ≤ t.Steps[k].Section) && decide (t.Steps[k].Section ≤ (n : Int) - 1)) = a
      generalize (decide (-20000 ≤ t.Steps[k].Power) && decide (t.Steps[k].Power ≤ 20000)) = b
      cases a <;> cases b <;> rfl) (fun _ => by
      unfold Qfb
      rw [XK]; rfl)
  unfold Qfc Qbf
  rw [key]
  unfold J6 Qjz
  simp only [J7, Qbz, Qu, Qhc]
  rw [Qaq _ (by simp), Qu]
  generalize (decide (0 ≤ t.Earliest) && decide (t.Earliest ≤ 1000)) = e1
  generalize (decide (0 ≤ t.Latest) && decide (t.Latest ≤ 1000)) = e2
  generalize decide (t.Earliest ≤ t.Latest) = o
  generalize decide (0 < (t.Steps.length : Int)) = z
  generalize decide ((t.Steps.length : Int) ≤ 12) = m
  cases X6 (fun i => (t.Steps[i]?.map (Je · n)).getD 0) t.Steps.length with
  | none => cases e1 <;> cases e2 <;> cases o <;> cases z <;> cases m <;> rfl
  | some i => cases e1 <;> cases e2 <;> cases o <;> cases z <;> cases m <;> rfl
theorem QMs (m : FeedNet) (t : FeedTrain) (hn : m.Sections.length < 1000) (ht : t.Steps.length < 1000) : Qjn m t = some (J6 t m.Sections.length) := by
  have key : loop (Qjm m t) 0 = some (match X6 (fun i => (t.Steps[i]?.map (Je · m.Sections.length)).getD 0) t.Steps.length with | some i => .inl ((t.Steps[i]?.map (Je · m.Sections.length)).getD 0) | none => .inr ()) :=
    JU (fun k => (k : Int)) t.Steps.length _ (fun _ e => e) () (fun k hk _ => by
      rw [Qno _ _ _ hk]
      unfold Qjm Qos Je
      rw [XB hk, cond_true, Xt hk, Qu, XC k (by omega), Ym (by omega)]
      simp only [Qcj, Qu]
      generalize (decide (0 ≤ t.Steps[k].Section) && decide (t.Steps[k].Section ≤ (m.Sections.length : Int) - 1)) = a
      generalize (decide (-20000 ≤ t.Steps[k].Power) && decide (t.Steps[k].Power ≤ 20000)) = b
      cases a <;> cases b <;> rfl) (fun _ => by
      unfold Qjm
      rw [XK]; rfl)
  unfold Qjn
  rw [key]
  unfold J6 Qjz
  simp only [Qcj, Qu, Qhc]
  rw [show decide (t.Latest < t.Earliest) = !decide (t.Earliest ≤ t.Latest) by rw [← decide_not]; congr 1; exact propext (by omega),
    show decide ((t.Steps.length : Int) = 0) = !decide (0 < (t.Steps.length : Int)) by rw [← decide_not]; congr 1; exact propext (by omega),
    show decide (12 < (t.Steps.length : Int)) = !decide ((t.Steps.length : Int) ≤ 12) by rw [← decide_not]; congr 1; exact propext (by omega)]
  generalize (decide (0 ≤ t.Earliest) && decide (t.Earliest ≤ 1000)) = e1
  generalize (decide (0 ≤ t.Latest) && decide (t.Latest ≤ 1000)) = e2
  generalize decide (t.Earliest ≤ t.Latest) = o
  generalize decide (0 < (t.Steps.length : Int)) = z
  generalize decide ((t.Steps.length : Int) ≤ 12) = q
  cases X6 (fun i => (t.Steps[i]?.map (Je · m.Sections.length)).getD 0) t.Steps.length with
  | none => cases e1 <;> cases e2 <;> cases o <;> cases z <;> cases q <;> rfl
  | some i => cases e1 <;> cases e2 <;> cases o <;> cases z <;> cases q <;> rfl
end Go.Gw

end
section
set_option maxRecDepth 4096
namespace Go.Gw
open Go
def stE (s : FeedStation) (others : List ByteArray) : Int := if JV s.Name others ≠ 0 then JV s.Name others else bif !(decide (0 ≤ s.Limit) && decide (s.Limit ≤ 100000)) then 2 else 0
def ZV (n : FeedNet) (i : Nat) : Int := (n.Stations[i]?.map fun s => stE s ((n.Stations.take i).map (·.Name))).getD 0
def ZU (n : FeedNet) (i : Nat) : Int := (n.Sections[i]?.map fun s => Jc s n.Stations.length).getD 0
def trE (t : FeedTrain) (others : List ByteArray) (n : Nat) : Int := if JV t.Name others ≠ 0 then JV t.Name others else J6 t n
def ZY (n : FeedNet) (i : Nat) : Int := (n.Trains[i]?.map fun t => trE t ((n.Trains.take i).map (·.Name)) n.Sections.length).getD 0
def JI (n : FeedNet) : FeedMark × Int :=
  if n.Stations.length = 0 ∨ n.Sections.length = 0 then (FeedMark.mk 0 0, 10) else if 6 < n.Stations.length ∨ 10 < n.Sections.length ∨ 6 < n.Trains.length then (FeedMark.mk 0 0, 8) else
  match X6 (ZV n) n.Stations.length with
  | some i => (FeedMark.mk 1 i, ZV n i)
  | none => match X6 (ZU n) n.Sections.length with
    | some i => (FeedMark.mk 2 i, ZU n i)
    | none => match X6 (ZY n) n.Trains.length with
      | some i => (FeedMark.mk 3 i, ZY n i)
      | none => (FeedMark.mk 0 0, 0)
structure NetS (n : FeedNet) : Prop where
  st : n.Stations.length < 1000
  se : n.Sections.length < 1000
  tr : n.Trains.length < 1000
  sn : ∀ s ∈ n.Stations, s.Name.size ≤ 1000
  tn : ∀ t ∈ n.Trains, t.Name.size ≤ 1000 ∧ t.Steps.length < 1000
theorem Jt {α : Type} (l : List α) (f : α → Int) (k : Nat) (hk : k < l.length) : (l[k]?.map f).getD 0 = f l[k] := by rw [List.getElem?_eq_getElem hk]; rfl
theorem Qkb {α β : Type} (l : List α) (f : α → β) (k : Nat) (hk : k < l.length) : (l.take k).map f ++ [f l[k]] = (l.take (k + 1)).map f := by
  rw [List.take_add_one, List.getElem?_eq_getElem hk, List.map_append]; rfl
theorem Qnm (a b : Int) : JG [a, b] = if a ≠ 0 then a else b := by
  by_cases h : a = 0
  · by_cases h2 : b = 0 <;> simp [JG, h, h2]
  · simp [JG, h]
section
variable {n : FeedNet} (h : NetS n)
include h
theorem QDk : loop (Qel n) (([] : List ByteArray), 0) = some (match X6 (ZV n) n.Stations.length with | some i => .inl (FeedMark.mk 1 i, ZV n i) | none => .inr ()) :=
  JU (fun k => ((n.Stations.take k).map (·.Name), (k : Int))) n.Stations.length (ZV n) (fun i e => (FeedMark.mk 1 i, e)) () (fun k hk _ => by
    have hst := h.st
    have hs : ZV n k = stE n.Stations[k] ((n.Stations.take k).map (·.Name)) := Jt _ _ _ hk
    rw [hs]
    unfold Qel stE
    simp only [XB hk, cond_true, Xt hk, Qu]
    rw [Qvi _ _ (h.sn _ (List.getElem_mem hk)) (by simp; omega), Qu]
    simp only [Qbz, J7, Qu]
    rw [Qaq _ (by simp), Qu, Qnm]
    generalize (decide (0 ≤ n.Stations[k].Limit) && decide (n.Stations[k].Limit ≤ 100000)) = b
    by_cases h1 : JV n.Stations[k].Name ((n.Stations.take k).map (·.Name)) = 0
    · simp only [h1, ne_eq, not_true_eq_false, if_false]
      cases b
      · rfl
      · simp only [cond_true, decide_true, Bool.not_true, cond_false, if_true]
        rw [ZM (by simp; omega), Qu, Qkb n.Stations (·.Name) k hk, XC k (by omega)]
    · simp only [ne_eq, h1, not_false_eq_true, if_true, decide_false, Bool.not_false, cond_true, if_false]) (fun _ => by
    unfold Qel
    simp only [XK]; rfl)
theorem QDj : loop (Qem n) 0 = some (match X6 (ZU n) n.Sections.length with | some i => .inl (FeedMark.mk 2 i, ZU n i) | none => .inr ()) :=
  JU (fun k => (k : Int)) n.Sections.length (ZU n) (fun i e => (FeedMark.mk 2 i, e)) () (fun k hk _ => by
    have hse := h.se
    have hs : ZU n k = Jc n.Sections[k] n.Stations.length := Jt _ _ _ hk
    rw [hs]
    unfold Qem
    rw [XB hk, cond_true, Xt hk, Qu, QDi _ _ h.st, Qu, XC k (by omega)]
    by_cases h1 : Jc n.Sections[k] n.Stations.length = 0
    · simp [h1]
    · simp [h1]) (fun _ => by
    unfold Qem
    rw [XK]; rfl)
theorem QDn : loop (Qen n) (([] : List ByteArray), 0) = some (match X6 (ZY n) n.Trains.length with | some i => .inl (FeedMark.mk 3 i, ZY n i) | none => .inr ()) :=
  JU (fun k => ((n.Trains.take k).map (·.Name), (k : Int))) n.Trains.length (ZY n) (fun i e => (FeedMark.mk 3 i, e)) () (fun k hk _ => by
    have hst := h.tr
    have hs : ZY n k = trE n.Trains[k] ((n.Trains.take k).map (·.Name)) n.Sections.length := Jt _ _ _ hk
    rw [hs]
    unfold Qen trE
    simp only [XB hk, cond_true, Xt hk, Qu]
    rw [Qvi _ _ (h.tn _ (List.getElem_mem hk)).1 (by simp; omega), Qu, QDl _ _ h.se (h.tn _ (List.getElem_mem hk)).2, Qu]
    rw [Qaq _ (by simp), Qu, Qnm]
    by_cases h1 : JV n.Trains[k].Name ((n.Trains.take k).map (·.Name)) = 0
    · simp only [h1, ne_eq, not_true_eq_false, if_false]
      by_cases h2 : J6 n.Trains[k] n.Sections.length = 0
      · simp only [h2, decide_true, Bool.not_true, cond_false, if_true]
        rw [ZM (by simp; omega), Qu, Qkb n.Trains (·.Name) k hk, XC k (by omega)]
      · simp [h2]
    · simp only [ne_eq, h1, not_false_eq_true, if_true, decide_false, Bool.not_false, cond_true, if_false]) (fun _ => by
    unfold Qen
    simp only [XK]; rfl)
theorem QCx : Qeo n = some (JI n) := by
  unfold Qeo JI
  rw [QDk h, QDj h, QDn h]
  simp only [J7, Qu]
  rw [Qaq _ (by simp), Qu, Qnm]
  by_cases h1 : n.Stations.length = 0 ∨ n.Sections.length = 0
  · rw [if_pos h1]
    have : (decide (0 < (n.Stations.length : Int)) && decide (0 < (n.Sections.length : Int))) = false := by
      rw [Bool.eq_false_iff]; intro e; simp at e; omega
    rw [this]; rfl
  · rw [if_neg h1]
    have : (decide (0 < (n.Stations.length : Int)) && decide (0 < (n.Sections.length : Int))) = true := by
      simp; omega
    rw [this]
    by_cases h2 : 6 < n.Stations.length ∨ 10 < n.Sections.length ∨ 6 < n.Trains.length
    · rw [if_pos h2]
      have : ((decide ((n.Stations.length : Int) ≤ 6) && decide ((n.Sections.length : Int) ≤ 10)) && decide ((n.Trains.length : Int) ≤ 6)) = false := by
        rw [Bool.eq_false_iff]; intro e; simp at e; omega
      rw [this]; rfl
    · rw [if_neg h2]
      have : ((decide ((n.Stations.length : Int) ≤ 6) && decide ((n.Sections.length : Int) ≤ 10)) && decide ((n.Trains.length : Int) ≤ 6)) = true := by
        simp; omega
      rw [this]
      cases X6 (ZV n) n.Stations.length with
      | some i => rfl
      | none =>
        cases X6 (ZU n) n.Sections.length with
        | some i => rfl
        | none =>
          cases X6 (ZY n) n.Trains.length with
          | some i => rfl
          | none => rfl
end
end Go.Gw

end
section
set_option maxRecDepth 4096
namespace Go.Gw
open Go
theorem Qyz {α : Type} {p : α → Bool} : ∀ (l : List α) (k m : Nat) (hk : k < l.length), p l[k] = true → ∃ j : Nat, XW p (fun k _ => (k : Int)) m l = .inl ((m + j : Nat) : Int) ∧ (j < k ↔ (l.take k).any p = true)
  | x :: xs, 0, m, _, hp => ⟨0, by simp at hp; simp [XW, hp], by simp⟩
  | x :: xs, k + 1, m, hk, hp => by
    by_cases hx : p x = true
    · exact ⟨0, by simp [XW, hx], by simp [hx]⟩
    · obtain ⟨j, h1, h2⟩ := Qyz xs k (m + 1) (by simpa using hk) (by simpa using hp)
      refine ⟨j + 1, by simp only [XW, hx]; rw [← show m + 1 + j = m + (j + 1) by omega]; simpa using h1, ?_⟩
      simp only [List.take_succ_cons, List.any_cons, hx]
      rw [← (show ((l : Bool) → (false || l) = l) from fun l => by cases l <;> rfl) ((xs.take k).any p)] at h2
      constructor
      · intro h; simpa using h2.1 (by omega)
      · intro h; have := h2.2 (by simpa using h); omega
theorem Qpx {α : Type} (f : α → ByteArray) (l : List α) (s : ByteArray) : ((l.map f).any fun x => decide (s = x)) = l.any fun y => decide (f y = s) := by
  rw [List.any_map]
  congr 1
  funext y
  exact decide_eq_decide.2 eq_comm
def Ys (n : FeedNet) (s : ByteArray) : Int := match XW (fun t : FeedTrain => decide (t.Name = s)) (fun k _ => (k : Int)) 0 n.Trains with | .inl i => i | .inr _ => -1
theorem Qon (n : FeedNet) (s : ByteArray) (h : n.Trains.length < 1000000) : Qdm n s = some (Ys n s) := by
  unfold Qdm Ys
  rw [ZR n.Trains (fun t => decide (t.Name = s)) (fun k _ => (k : Int)), Qu, Qjy]
  all_goals first
    | (intro k hk; unfold Qoq; rw [XB hk, cond_true, Xt hk, Qu, XC k (by omega)])
    | (unfold Qoq; rw [XK]; rfl)
    | rfl
section
variable {n : FeedNet} (h : NetS n)
include h
theorem QMr : loop (Qiv n) 0 = some (match X6 (ZV n) n.Stations.length with | some i => .inl (FeedMark.mk 1 i, ZV n i) | none => .inr ()) :=
  JU (fun k => (k : Int)) n.Stations.length (ZV n) (fun i e => (FeedMark.mk 1 i, e)) () (fun k hk _ => by
    have hst := h.st
    have hs : ZV n k = stE n.Stations[k] ((n.Stations.take k).map (·.Name)) := Jt _ _ _ hk
    have hlen : (n.Stations.take k).length = k := by simp; omega
    have inner : loop (Qiu n (k : Int)) 0 = some (XW (fun y : FeedStation => decide (y.Name = n.Stations[k].Name)) (fun _ _ => Sum.inr (α := Int) (Sum.inl (β := Unit) (FeedMark.mk 1 (k : Int), (5 : Int)))) 0 (n.Stations.take k)) :=
      ZR (n.Stations.take k) _ _ (fun j hj => by
        rw [hlen] at hj
        unfold Qiu
        rw [XB hj, cond_true, Xt (show j < n.Stations.length by omega), Qu, Xt hk, Qu, XC j (by omega)]
        simp only [List.getElem_take]) (by
        rw [hlen]
        unfold Qiu
        rw [XK]; rfl)
    rw [hs]
    unfold Qiv stE JV
    rw [XB hk, cond_true, Xt hk, Qu, Qpz, Qu, inner, Qpx]
    cases hn : Qat n.Stations[k].Name
    · rfl
    · simp only [Bool.not_true, cond_false, Qu]
      rcases Qau (p := fun y : FeedStation => decide (y.Name = n.Stations[k].Name)) (res := fun _ _ => Sum.inr (α := Int) (Sum.inl (β := Unit) (FeedMark.mk 1 (k : Int), (5 : Int)))) (n.Stations.take k) 0 with ⟨k1, k2⟩ | ⟨j, x, k1, k2, k3⟩
      · rw [k1, k2]
        simp only [jn0, Qu, Qcj, XC k (show k < 4611686018427387904 by omega)]
        generalize (decide (0 ≤ n.Stations[k].Limit) && decide (n.Stations[k].Limit ≤ 100000)) = b
        cases b <;> rfl
      · rw [k1, k3]; rfl) (fun _ => by
    unfold Qiv
    rw [XK]; rfl)
theorem QMq : loop (Qiw n) 0 = some (match X6 (ZU n) n.Sections.length with | some i => .inl (FeedMark.mk 2 i, ZU n i) | none => .inr ()) :=
  JU (fun k => (k : Int)) n.Sections.length (ZU n) (fun i e => (FeedMark.mk 2 i, e)) () (fun k hk _ => by
    have hse := h.se
    have hs : ZU n k = Jc n.Sections[k] n.Stations.length := Jt _ _ _ hk
    rw [hs]
    unfold Qiw
    rw [XB hk, cond_true, Xt hk, Qu, QMp _ _ h.st, Qu, XC k (by omega)]
    by_cases h1 : Jc n.Sections[k] n.Stations.length = 0
    · simp [h1]
    · simp [h1]) (fun _ => by
    unfold Qiw
    rw [XK]; rfl)
theorem QMt : loop (Qix n) 0 = some (match X6 (ZY n) n.Trains.length with | some i => .inl (FeedMark.mk 3 i, ZY n i) | none => .inr ()) :=
  JU (fun k => (k : Int)) n.Trains.length (ZY n) (fun i e => (FeedMark.mk 3 i, e)) () (fun k hk _ => by
    have hst := h.tr
    have hs : ZY n k = trE n.Trains[k] ((n.Trains.take k).map (·.Name)) n.Sections.length := Jt _ _ _ hk
    obtain ⟨j, hj1, hj2⟩ := Qyz (p := fun t : FeedTrain => decide (t.Name = n.Trains[k].Name)) n.Trains k 0 hk (by simp)
    have ht : Ys n n.Trains[k].Name = (j : Int) := by unfold Ys; rw [hj1]; simp
    rw [hs]
    unfold Qix trE JV
    rw [XB hk, cond_true, Xt hk, Qu, Qpz, Qu, Qpx]
    cases hn : Qat n.Trains[k].Name
    · rfl
    · simp only [Bool.not_true, cond_false, Qu]
      rw [Qon _ _ (by omega), ht, Qu, QMs _ _ h.se (h.tn _ (List.getElem_mem hk)).2, Qu, XC k (by omega)]
      cases ha : (n.Trains.take k).any (fun t => decide (t.Name = n.Trains[k].Name)) with
      | true =>
        rw [decide_eq_true (show (j : Int) < k by have := hj2.2 ha; omega)]; rfl
      | false =>
        rw [decide_eq_false (show ¬ (j : Int) < k by intro e; have := hj2.1 (by omega); rw [ha] at this; cases this)]
        by_cases h2 : J6 n.Trains[k] n.Sections.length = 0
        · simp [h2]
        · simp [h2]) (fun _ => by
    unfold Qix
    rw [XK]; rfl)
theorem QMe : Qiy n = some (JI n) := by
  unfold Qiy JI
  rw [QMr h, QMq h, QMt h]
  by_cases h1 : n.Stations.length = 0 ∨ n.Sections.length = 0
  · rw [if_pos h1]
    have : (decide ((n.Stations.length : Int) = 0) || decide ((n.Sections.length : Int) = 0)) = true := by
      simp only [Bool.or_eq_true, decide_eq_true_eq]; omega
    rw [this]; rfl
  · rw [if_neg h1]
    have : (decide ((n.Stations.length : Int) = 0) || decide ((n.Sections.length : Int) = 0)) = false := by
      rw [decide_eq_false (by omega), decide_eq_false (by omega)]; rfl
    rw [this, cond_false]
    by_cases h2 : 6 < n.Stations.length ∨ 10 < n.Sections.length ∨ 6 < n.Trains.length
    · rw [if_pos h2]
      have : ((decide (6 < (n.Stations.length : Int)) || decide (10 < (n.Sections.length : Int))) || decide (6 < (n.Trains.length : Int))) = true := by
        simp only [Bool.or_eq_true, decide_eq_true_eq]; omega
      rw [this]; rfl
    · rw [if_neg h2]
      have : ((decide (6 < (n.Stations.length : Int)) || decide (10 < (n.Sections.length : Int))) || decide (6 < (n.Trains.length : Int))) = false := by
        rw [decide_eq_false (by omega), decide_eq_false (by omega), decide_eq_false (by omega)]; rfl
      rw [this, cond_false]
      cases X6 (ZV n) n.Stations.length with
      | some i => rfl
      | none =>
        cases X6 (ZU n) n.Sections.length with
        | some i => rfl
        | none =>
          cases X6 (ZY n) n.Trains.length with
          | some i => rfl
          | none => rfl
end
end Go.Gw

end
section
set_option maxRecDepth 4096
namespace Go.Gw
open Go
theorem QCe (l : List FeedDeparture) (h : l.length < 1000000) : Qfn l = some l := by
  unfold Qfn; rw [ZM (by simp; omega)]; rfl
theorem QCf {n : FeedNet} (h : NetS n) : Qdl n = some n := by
  have key : loop (Qiz n) (0, ([] : List FeedTrain)) = some n.Trains :=
    Zd (fun k => ((k : Int), n.Trains.take k)) n.Trains.length (fun k hk => by
      have hst := h.tr
      have hsteps := (h.tn _ (List.getElem_mem hk)).2
      unfold Qiz
      simp only [XB hk, cond_true, Xt hk, Qu]
      rw [ZM (by simp; omega), Qu, ZM (by simp; omega), Qu, XC k (by omega), List.nil_append]
      congr 3
      rw [List.take_add_one, List.getElem?_eq_getElem hk]; rfl) (by
      unfold Qiz
      simp only [XK, cond_false, List.take_length])
  unfold Qdl
  have h1 := h.st
  have h2 := h.se
  rw [ZM (by simp; omega), ZM (by simp; omega), key]
  rfl
def Qfd (n : FeedNet) : Bool := !(decide (8 < n.Stations.length) || decide (12 < n.Sections.length) || decide (8 < n.Trains.length)) && !(n.Stations.any fun s => decide (20 < (s.Name.size : Int))) && !(n.Trains.any fun t => decide (20 < (t.Name.size : Int)) || decide (14 < (t.Steps.length : Int)))
theorem QHq (n : FeedNet) : Qid n = some (Qfd n) := by
  unfold Qid Qfd
  by_cases h : 8 < n.Stations.length ∨ 12 < n.Sections.length ∨ 8 < n.Trains.length
  · have e1 : ((decide (8 < (n.Stations.length : Int)) || decide (12 < (n.Sections.length : Int))) || decide (8 < (n.Trains.length : Int))) = true := by
      simp only [Bool.or_eq_true, decide_eq_true_eq]; omega
    have e2 : (decide (8 < n.Stations.length) || decide (12 < n.Sections.length) || decide (8 < n.Trains.length)) = true := by
      simp only [Bool.or_eq_true, decide_eq_true_eq]; omega
    rw [e1, e2]; rfl
  · have e1 : ((decide (8 < (n.Stations.length : Int)) || decide (12 < (n.Sections.length : Int))) || decide (8 < (n.Trains.length : Int))) = false := by
      rw [decide_eq_false (by omega), decide_eq_false (by omega), decide_eq_false (by omega)]; rfl
    have e2 : (decide (8 < n.Stations.length) || decide (12 < n.Sections.length) || decide (8 < n.Trains.length)) = false := by
      rw [decide_eq_false (by omega), decide_eq_false (by omega), decide_eq_false (by omega)]; rfl
    rw [e1, e2, cond_false, ZR n.Stations (fun s => decide (20 < (s.Name.size : Int))) (fun _ _ => false), Qu, ZR n.Trains (fun t => decide (20 < (t.Name.size : Int)) || decide (14 < (t.Steps.length : Int))) (fun _ _ => false)]
    · rcases Qau (p := fun s : FeedStation => decide (20 < (s.Name.size : Int))) (res := fun _ _ => false) n.Stations 0 with ⟨k1, k2⟩ | ⟨j, x, k1, k2, k3⟩
      · rw [k1, k2]
        rcases Qau (p := fun t : FeedTrain => decide (20 < (t.Name.size : Int)) || decide (14 < (t.Steps.length : Int))) (res := fun _ _ => false) n.Trains 0 with ⟨k3, k4⟩ | ⟨j, x, k3, k4, k5⟩
        · rw [k3, k4]; rfl
        · rw [k3, k5]; rfl
      · rw [k1, k3]; rfl
    · intro k hk
      unfold Qns
      rw [XB hk, cond_true, Xt hk, Qu, XC k (by omega)]
      cases h1 : decide (20 < (n.Trains[k].Name.size : Int)) <;> simp
    · unfold Qns
      rw [XK]; rfl
    · intro k hk
      unfold Qnr
      rw [XB hk, cond_true, Xt hk, Qu, XC k (by omega)]
    · unfold Qnr
      rw [XK]; rfl
theorem QHp {n : FeedNet} (h : Qfd n = true) : NetS n := by
  unfold Qfd at h
  simp only [Bool.and_eq_true, Bool.not_eq_true', Bool.or_eq_false_iff, decide_eq_false_iff_not, List.any_eq_false] at h
  obtain ⟨⟨⟨⟨h1, h2⟩, h3⟩, h4⟩, h5⟩ := h
  refine ⟨by omega, by omega, by omega, fun s hs => ?_, fun t ht => ?_⟩
  · have := h4 s hs; simp at this; omega
  · have := h5 t ht; simp at this; omega
def Qga (l : List FeedDeparture) : Bool := !(decide (8 < l.length)) && !(l.any fun d => decide (20 < (d.Train.size : Int)))
theorem QOf (l : List FeedDeparture) : Qih l = some (Qga l) := by
  unfold Qih Qga
  by_cases h : 8 < l.length
  · rw [decide_eq_true (show 8 < (l.length : Int) by omega), decide_eq_true h]; rfl
  · rw [decide_eq_false (show ¬ 8 < (l.length : Int) by omega), decide_eq_false h, cond_false, ZR l (fun d => decide (20 < (d.Train.size : Int))) (fun _ _ => false)]
    · rcases Qau (p := fun d : FeedDeparture => decide (20 < (d.Train.size : Int))) (res := fun _ _ => false) l 0 with ⟨k1, k2⟩ | ⟨j, x, k1, k2, k3⟩
      · rw [k1, k2]; rfl
      · rw [k1, k3]; rfl
    · intro k hk
      unfold Qnt
      rw [XB hk, cond_true, Xt hk, Qu, XC k (by omega)]
    · unfold Qnt
      rw [XK]; rfl
theorem QOe {l : List FeedDeparture} (h : Qga l = true) : l.length ≤ 8 := by
  unfold Qga at h; simp at h; omega
end Go.Gw

end
section
set_option maxRecDepth 4096
namespace Go.Gw
open Go
def JO (n : FeedNet) (d : FeedDeparture) (others : List FeedDeparture) : Int := if Ys n d.Train < 0 then 6 else if (others.any fun o => decide (o.Train = d.Train)) = true then 26 else bif !(decide (0 ≤ d.At) && decide (d.At ≤ 1000)) then 2 else 0
def Y2 (n : FeedNet) (l : List FeedDeparture) (i : Nat) : Int := (l[i]?.map fun d => JO n d (l.take i)).getD 0
def Xd (n : FeedNet) (d : FeedDeparture) : feed_run := feed_run.mk (n.Trains[(Ys n d.Train).toNat]?.getD default) d.At
theorem Qkk {n : FeedNet} {s : ByteArray} (h : 0 ≤ Ys n s) : ∃ t, n.Trains[(Ys n s).toNat]? = some t ∧ t.Name = s ∧ (Ys n s).toNat < n.Trains.length := by
  have key : ∀ (l : List FeedTrain) (m : Nat), (XW (fun t : FeedTrain => decide (t.Name = s)) (fun k _ => (k : Int)) m l = .inr ()) ∨ ∃ (j : Nat) (t : FeedTrain), XW (fun t : FeedTrain => decide (t.Name = s)) (fun k _ => (k : Int)) m l = .inl ((m + j : Nat) : Int) ∧ l[j]? = some t ∧ t.Name = s := by
    intro l
    induction l with
    | nil => intro m; exact .inl rfl
    | cons x xs ih =>
      intro m
      by_cases hx : x.Name = s
      · exact .inr ⟨0, x, by simp [XW, hx], rfl, hx⟩
      · rcases ih (m + 1) with h1 | ⟨j, t, h1, h2, h3⟩
        · exact .inl (by simp [XW, hx, h1])
        · exact .inr ⟨j + 1, t, by simp only [XW, hx, decide_false]; rw [← show m + 1 + j = m + (j + 1) by omega]; simpa using h1, h2, h3⟩
  rcases key n.Trains 0 with h1 | ⟨j, t, h1, h2, h3⟩
  · unfold Ys at h; rw [h1] at h; simp at h
  · have e : Ys n s = (j : Int) := by unfold Ys; rw [h1]; simp
    rw [e]
    exact ⟨t, by simpa using h2, h3, by simpa using (List.getElem?_eq_some_iff.1 h2).1⟩
theorem QDm (n : FeedNet) (s : ByteArray) (h : n.Trains.length < 1000000) : Qev ⟨n⟩ s = some (Ys n s) := by
  unfold Qev Qjt Ys
  rw [ZR n.Trains (fun t => decide (t.Name = s)) (fun k _ => (k : Int)), Qu, Qjy]
  · rfl
  · intro k hk
    unfold Qjs
    rw [XB hk, cond_true, Xt hk, Qu, XC k (by omega)]; rfl
  · unfold Qjs
    rw [XK]; rfl
theorem QBr (l : List feed_run) (d : FeedDeparture) (hl : l.length < 1000000) : Qgb l d = some (l.any fun r => decide (r.FeedTrain.Name = d.Train)) := by
  unfold Qgb Qjv
  rw [ZR l (fun r => decide (r.FeedTrain.Name = d.Train)) (fun k _ => (k : Int)), Qu, Qjy, Qu, Qpg]
  · intro k hk
    unfold Qju
    rw [XB hk, cond_true, Xt hk, Qu, XC k (by omega)]; rfl
  · unfold Qju
    rw [XK]; rfl
theorem Qlq {n : FeedNet} {d : FeedDeparture} {o : List FeedDeparture} (h : JO n d o = 0) : 0 ≤ Ys n d.Train := by
  unfold JO at h
  split at h
  · cases h
  · omega
theorem QNu {n : FeedNet} (s : ByteArray) (l : List FeedDeparture) (h : ∀ d ∈ l, 0 ≤ Ys n d.Train) : ((l.map (Xd n)).any fun r => decide (r.FeedTrain.Name = s)) = l.any fun d => decide (d.Train = s) := by
  rw [List.any_map]
  induction l with
  | nil => rfl
  | cons d l ih =>
    simp only [List.any_cons]
    rw [ih fun x hx => h x (List.mem_cons_of_mem _ hx)]
    congr 1
    obtain ⟨t, h1, h2, _⟩ := Qkk (h d (List.mem_cons_self ..))
    simp [Xd, h1, h2]
theorem QHt (a b c : Int) : JG [a, b, c] = if a ≠ 0 then a else if b ≠ 0 then b else c := by
  by_cases h : a = 0 <;> by_cases h2 : b = 0 <;> by_cases h3 : c = 0 <;> simp [JG, h, h2, h3]
theorem QDh (n : FeedNet) (l : List FeedDeparture) (hn : n.Trains.length < 1000) : Qeu ⟨n⟩ l = some (if 6 < l.length then ([], 0, 8) else match X6 (Y2 n l) l.length with | some i => ([], (i : Int), Y2 n l i) | none => (l.map (Xd n), 0, 0)) := by
  unfold Qeu
  by_cases h6 : 6 < l.length
  · rw [decide_eq_true (show 6 < (l.length : Int) by omega), if_pos h6]; rfl
  · rw [decide_eq_false (show ¬ 6 < (l.length : Int) by omega), if_neg h6, cond_false]
    have key : loop (Qet l ⟨n⟩) (([] : List feed_run), 0) = some (match X6 (Y2 n l) l.length with | some i => .inl ([], (i : Int), Y2 n l i) | none => .inr (l.map (Xd n))) :=
      JU (fun k => ((l.take k).map (Xd n), (k : Int))) l.length (Y2 n l) (fun i e => (([] : List feed_run), (i : Int), e)) (l.map (Xd n)) (fun k hk hpre => by
        have hs : Y2 n l k = JO n l[k] (l.take k) := Jt _ _ _ hk
        have hall : ∀ d ∈ l.take k, 0 ≤ Ys n d.Train := fun d hd => by
          obtain ⟨j, hj, rfl⟩ := List.mem_iff_getElem.1 hd
          have hjk : j < k := by rw [List.length_take] at hj; omega
          have := hpre j hjk
          rw [show Y2 n l j = JO n l[j] (l.take j) from Jt _ _ _ (by omega)] at this
          rw [List.getElem_take]
          exact Qlq this
        rw [hs]
        unfold Qet
        simp only [XB hk, cond_true, Xt hk, Qu]
        rw [QDm n _ (by omega), Qu, QBr _ _ (by simp; omega), Qu, QNu _ _ hall]
        unfold Qbf
        simp only [J7, Qbz, Qu]
        rw [Qaq _ (by simp), Qu, QHt]
        unfold JO
        generalize (decide (0 ≤ l[k].At) && decide (l[k].At ≤ 1000)) = b
        generalize ((l.take k).any fun d => decide (d.Train = l[k].Train)) = tw
        by_cases ht : Ys n l[k].Train < 0
        · rw [decide_eq_false (show ¬ 0 ≤ Ys n l[k].Train by omega)]
          simp [ht]
        · rw [decide_eq_true (show 0 ≤ Ys n l[k].Train by omega), if_neg ht]
          cases tw
          · cases b
            · rfl
            · simp only [cond_true, Bool.not_false, Bool.not_true, cond_false, ne_eq, not_true_eq_false, if_false, decide_true]
              obtain ⟨t, h1, h2, h3⟩ := Qkk (show 0 ≤ Ys n l[k].Train by omega)
              have hidx : idx n.Trains (Ys n l[k].Train) = some t := by unfold idx; rw [if_pos (by omega)]; exact h1
              rw [hidx, Qu, ZM (by simp; omega), Qu, XC k (by omega)]
              have : feed_run.mk t l[k].At = Xd n l[k] := by unfold Xd; rw [h1]; rfl
              rw [this, Qkb l (Xd n) k hk]
              rfl
          · rfl) (fun _ => by
        unfold Qet
        simp only [XK, cond_false, List.take_length])
    rw [key, Qu]
    cases X6 (Y2 n l) l.length <;> rfl
theorem QMd (n : FeedNet) (l : List FeedDeparture) (hn : n.Trains.length < 1000) : Qit n l = some (if 6 < l.length then (0, 8) else match X6 (Y2 n l) l.length with | some i => ((i : Int), Y2 n l i) | none => (0, 0)) := by
  unfold Qit
  by_cases h6 : 6 < l.length
  · rw [decide_eq_true (show 6 < (l.length : Int) by omega), if_pos h6]; rfl
  · rw [decide_eq_false (show ¬ 6 < (l.length : Int) by omega), if_neg h6, cond_false]
    have key : loop (Qis l n) 0 = some (match X6 (Y2 n l) l.length with | some i => .inl ((i : Int), Y2 n l i) | none => .inr ()) :=
      JU (fun k => (k : Int)) l.length (Y2 n l) (fun i e => ((i : Int), e)) () (fun k hk _ => by
        have hs : Y2 n l k = JO n l[k] (l.take k) := Jt _ _ _ hk
        have hlen : (l.take k).length = k := by simp; omega
        have inner : loop (Qir l (k : Int)) 0 = some (XW (fun y : FeedDeparture => decide (y.Train = l[k].Train)) (fun _ _ => Sum.inr (α := Int) (Sum.inl (β := Unit) ((k : Int), (26 : Int)))) 0 (l.take k)) :=
          ZR (l.take k) _ _ (fun j hj => by
            rw [hlen] at hj
            unfold Qir
            rw [XB hj, cond_true, Xt (show j < l.length by omega), Qu, Xt hk, Qu, XC j (by omega)]
            simp only [List.getElem_take]) (by
            rw [hlen]
            unfold Qir
            rw [XK]; rfl)
        rw [hs]
        unfold Qis JO
        rw [XB hk, cond_true, Xt hk, Qu, Qon _ _ (by omega), Qu, inner]
        by_cases ht : Ys n l[k].Train < 0
        · rw [decide_eq_true ht, if_pos ht]; rfl
        · rw [decide_eq_false ht, if_neg ht, cond_false, Qu]
          rcases Qau (p := fun y : FeedDeparture => decide (y.Train = l[k].Train)) (res := fun _ _ => Sum.inr (α := Int) (Sum.inl (β := Unit) ((k : Int), (26 : Int)))) (l.take k) 0 with ⟨k1, k2⟩ | ⟨j, x, k1, k2, k3⟩
          · rw [k1, k2]
            simp only [jn0, Qu, Qcj, XC k (show k < 4611686018427387904 by omega)]
            generalize (decide (0 ≤ l[k].At) && decide (l[k].At ≤ 1000)) = b
            cases b <;> rfl
          · rw [k1, k3]; rfl) (fun _ => by
        unfold Qis
        rw [XK]; rfl)
    rw [key, Qu]
    cases X6 (Y2 n l) l.length <;> rfl
end Go.Gw

end
section
set_option maxRecDepth 4096
namespace Go.Gw
open Go
/-! ### The greatest common divisor -/
/-! ### Sums -/
theorem Qph {c : Int} (hc : 0 ≤ c) : ∀ {l : List Int}, (∀ x ∈ l, -c ≤ x ∧ x ≤ c) → -(c * l.length) ≤ l.sum ∧ l.sum ≤ c * l.length
  | [], _ => by simp
  | x :: l, h => by
    have h1 := h x (List.mem_cons_self ..)
    have h2 := Qph hc (l := l) fun y hy => h y (List.mem_cons_of_mem _ hy)
    simp only [List.sum_cons, List.length_cons]
    have : c * ((l.length + 1 : Nat) : Int) = c * l.length + c := by rw [Int.natCast_add, Int.mul_add]; simp
    rw [this]
    omega
theorem Qzb {l : List Int} {k : Nat} (hk : k < l.length) : (l.take (k + 1)).sum = (l.take k).sum + l[k] := by
  rw [List.take_add_one, List.getElem?_eq_getElem hk, List.sum_append]
  simp
theorem QPu {l : List Int} {c : Int} (hc : 0 ≤ c) (hc2 : c ≤ 1000000000) (h : ∀ x ∈ l, -c ≤ x ∧ x ≤ c) (hl : l.length ≤ 1000) : Qjl l = some l.sum := by
  have key : loop (Qjk l) (0, 0) = some l.sum := Zd (o := l.sum) (fun k => ((l.take k).sum, (k : Int))) l.length ?_ ?_
  · unfold Qjl
    rw [key]; rfl
  · intro k hk
    unfold Qjk
    have hb := Qph hc (l := l.take (k + 1)) fun x hx => h x (List.mem_of_mem_take hx)
    have hlen : (l.take (k + 1)).length = k + 1 := by simp; omega
    rw [hlen, Qzb hk] at hb
    have hm : c * ((k + 1 : Nat) : Int) ≤ 1000000000 * 1000 := Int.mul_le_mul hc2 (by omega) (by omega) (by omega)
    simp only [XB hk, cond_true, Xt hk, Qu]
    rw [Ym (by omega), XC k (by omega), Qzb hk]
  · unfold Qjk
    simp only [XK, cond_false, List.take_length]
end Go.Gw

end
section
set_option maxRecDepth 4096
namespace Go.Gw
open Go
def Jo (st : List FeedStep) (k : Int) (s : Nat) : Int := if 0 ≤ k ∧ k ≤ (st.length : Int) - 1 then (match st[k.toNat]? with | some x => if x.Section = (s : Int) then x.Power else 0 | none => 0) else 0
def XS (l : List feed_run) (t : Int) (s : Nat) : Int := (l.map fun r => Jo r.FeedTrain.Steps (t - r.at_) s).sum
def Zv (m : Nat) (r : feed_run) : Prop := (∀ x ∈ r.FeedTrain.Steps, 0 ≤ x.Section ∧ x.Section ≤ (m : Int) - 1 ∧ -20000 ≤ x.Power ∧ x.Power ≤ 20000) ∧ r.FeedTrain.Steps.length ≤ 12 ∧ 0 ≤ r.at_ ∧ r.at_ ≤ 1000
theorem QCg {m : Nat} {r : feed_run} (h : Zv m r) (k : Int) (s : Nat) : -20000 ≤ Jo r.FeedTrain.Steps k s ∧ Jo r.FeedTrain.Steps k s ≤ 20000 := by
  unfold Jo
  split
  · split
    · rename_i x hx
      have := h.1 x (List.mem_of_getElem? hx)
      split <;> omega
    · omega
  · omega
theorem Qol {m : Nat} {l : List feed_run} (h : ∀ r ∈ l, Zv m r) (t : Int) (s : Nat) : -(20000 * (l.length : Int)) ≤ XS l t s ∧ XS l t s ≤ 20000 * (l.length : Int) := by
  have := Qph (c := 20000) (by omega) (l := l.map fun r => Jo r.FeedTrain.Steps (t - r.at_) s) fun x hx => by
    obtain ⟨r, hr, rfl⟩ := List.mem_map.1 hx
    exact QCg (h r hr) _ _
  simpa [XS] using this
theorem Qom {l : List feed_run} {t : Int} {s k : Nat} (hk : k < l.length) : XS (l.take (k + 1)) t s = XS (l.take k) t s + Jo l[k].FeedTrain.Steps (t - l[k].at_) s := by
  unfold XS
  rw [List.take_add_one, List.getElem?_eq_getElem hk, List.map_append, List.sum_append]
  simp
theorem QOd {m : Nat} {f g : Nat → Int} {s : Nat} (hs : s < m) (hv : ∀ i, i ≠ s → g i = f i) : ((List.range m).map f).set s (g s) = (List.range m).map g := by
  apply List.ext_getElem?
  intro i
  by_cases hi : i = s
  · subst hi
    rw [List.getElem?_set_self (by simpa using hs)]
    simp [hs]
  · rw [List.getElem?_set_ne (Ne.symm hi)]
    by_cases him : i < m
    · simp [him, hv i hi]
    · simp [him]
theorem Qnw (m : Nat) (h : m < 1000) : mk (m : Int) (0 : Int) = some ((List.range m).map fun _ => (0 : Int)) := by
  unfold mk
  rw [if_pos (by omega)]
  congr 1
  apply List.ext_getElem?
  intro i
  by_cases hi : i < m <;> simp [hi]
theorem QPt {m : Nat} {r : feed_run} (h : Zv m r) {t : Int} (ht : 0 ≤ t) (ht2 : t ≤ 100000) :
    ∃ o, Qcy r t = some o ∧ ((o.2 = false ∧ ∀ s, Jo r.FeedTrain.Steps (t - r.at_) s = 0) ∨ (o.2 = true ∧ 0 ≤ o.1.Section ∧ o.1.Section ≤ (m : Int) - 1 ∧ -20000 ≤ o.1.Power ∧ o.1.Power ≤ 20000 ∧ ∀ s : Nat, Jo r.FeedTrain.Steps (t - r.at_) s = if o.1.Section = (s : Int) then o.1.Power else 0)) := by
  obtain ⟨h1, h2, h3, h4⟩ := h
  unfold Qcy
  rw [Ym (by omega), Ym (by omega), Qbz, Qu]
  by_cases hin : 0 ≤ t - r.at_ ∧ t - r.at_ ≤ (r.FeedTrain.Steps.length : Int) - 1
  · have e : (decide (0 ≤ t - r.at_) && decide (t - r.at_ ≤ (r.FeedTrain.Steps.length : Int) - 1)) = true := by
      rw [decide_eq_true hin.1, decide_eq_true hin.2]; rfl
    have hk : (t - r.at_).toNat < r.FeedTrain.Steps.length := by omega
    have hidx : idx r.FeedTrain.Steps (t - r.at_) = some r.FeedTrain.Steps[(t - r.at_).toNat] := by
      unfold idx; rw [if_pos hin.1, List.getElem?_eq_getElem hk]
    rw [e]
    simp only [Bool.not_true, cond_false]
    rw [hidx, Qu]
    have hb := h1 _ (List.getElem_mem hk)
    refine ⟨_, rfl, .inr ⟨rfl, hb.1, hb.2.1, hb.2.2.1, hb.2.2.2, fun s => ?_⟩⟩
    unfold Jo
    rw [if_pos hin, List.getElem?_eq_getElem hk]
  · have e : (decide (0 ≤ t - r.at_) && decide (t - r.at_ ≤ (r.FeedTrain.Steps.length : Int) - 1)) = false := by
      rw [Bool.eq_false_iff]; intro e; simp at e; exact hin (by omega)
    rw [e]
    exact ⟨_, rfl, .inl ⟨rfl, fun s => by unfold Jo; rw [if_neg hin]⟩⟩
theorem QLy {n : FeedNet} {l : List feed_run} (hn : n.Sections.length < 1000) (hl : l.length ≤ 8) (h : ∀ r ∈ l, Zv n.Sections.length r) {t : Int} (ht : 0 ≤ t) (ht2 : t ≤ 100000) :
    Qcw ⟨n⟩ l t = some ((List.range n.Sections.length).map (XS l t)) := by
  have key : loop (Qes l t) ((List.range n.Sections.length).map (fun _ => (0 : Int)), 0) = some ((List.range n.Sections.length).map (XS l t)) :=
    Zd (fun k => ((List.range n.Sections.length).map (XS (l.take k) t), (k : Int))) l.length (fun k hk => by
      obtain ⟨o, ho, hc⟩ := QPt (h _ (List.getElem_mem hk)) ht ht2
      unfold Qes
      simp only [XB hk, cond_true, Xt hk, Qu, ho]
      rw [XC k (by omega)]
      rcases hc with ⟨h1, h2⟩ | ⟨h1, h2, h3, h4, h5, h6⟩
      · rw [h1, cond_false]
        congr 3
        apply List.map_congr_left
        intro s _
        rw [Qom hk, h2 s]; simp
      · rw [h1, cond_true]
        have hs : o.1.Section.toNat < n.Sections.length := by omega
        have hsi : ((o.1.Section.toNat : Nat) : Int) = o.1.Section := by omega
        have hidx : idx ((List.range n.Sections.length).map (XS (l.take k) t)) o.1.Section = some (XS (l.take k) t o.1.Section.toNat) := by
          unfold idx; rw [if_pos h2]; simp [hs]
        have hb := Qol (l := l.take k) (fun r hr => h r (List.mem_of_mem_take hr)) t o.1.Section.toNat
        have hlen : (l.take k).length ≤ 8 := by rw [List.length_take]; omega
        have hnew : w64 (XS (l.take k) t o.1.Section.toNat + o.1.Power) = XS (l.take (k + 1)) t o.1.Section.toNat := by
          rw [Qom hk, h6, if_pos (by omega)]; exact Ym (by omega)
        rw [hidx, Qu, Qu, hnew, QOd (f := XS (l.take k) t) (g := XS (l.take (k + 1)) t) hs (fun i hi => by rw [Qom hk, h6, if_neg (by omega)]; simp)]) (by
      unfold Qes
      simp only [XK, cond_false, List.take_length])
  unfold Qcw
  rw [Qnw _ hn, Qu, key]; rfl
end Go.Gw

end
section
set_option maxRecDepth 4096
namespace Go.Gw
open Go
structure NetOk (n : FeedNet) : Prop where
  st0 : 0 < n.Stations.length
  st6 : n.Stations.length ≤ 6
  se0 : 0 < n.Sections.length
  se10 : n.Sections.length ≤ 10
  tr6 : n.Trains.length ≤ 6
  lim : ∀ s ∈ n.Stations, 0 ≤ s.Limit ∧ s.Limit ≤ 100000
  sec : ∀ s ∈ n.Sections, Jc s n.Stations.length = 0
  tr : ∀ t ∈ n.Trains, J6 t n.Sections.length = 0
theorem Qui {f : Nat → Int} {n : Nat} (h : (match X6 f n with | some i => f i | none => 0) = 0) : ∀ j, j < n → f j = 0 := by
  rcases Qda f n with ⟨h1, h2⟩ | ⟨i, h1, h2, h3, h4⟩
  · exact h2
  · rw [h1] at h; exact absurd h h3
theorem QIz {n : FeedNet} (h : (JI n).2 = 0) : NetOk n := by
  unfold JI at h
  split at h
  · cases h
  · rename_i h1
    split at h
    · cases h
    · rename_i h2
      rcases Qda (ZV n) n.Stations.length with ⟨a1, a2⟩ | ⟨i, a1, a2, a3, _⟩
      · rw [a1] at h
        rcases Qda (ZU n) n.Sections.length with ⟨b1, b2⟩ | ⟨i, b1, b2, b3, _⟩
        · rw [b1] at h
          rcases Qda (ZY n) n.Trains.length with ⟨c1, c2⟩ | ⟨i, c1, c2, c3, _⟩
          · refine ⟨by omega, by omega, by omega, by omega, by omega, fun s hs => ?_, fun s hs => ?_, fun t ht => ?_⟩
            · obtain ⟨k, hk, rfl⟩ := List.mem_iff_getElem.1 hs
              have := a2 k hk
              rw [show ZV n k = stE n.Stations[k] ((n.Stations.take k).map (·.Name)) from Jt _ _ _ hk] at this
              unfold stE at this
              split at this
              · rename_i hc; exact absurd this hc
              · cases hb : (decide (0 ≤ n.Stations[k].Limit) && decide (n.Stations[k].Limit ≤ 100000)) with
                | true => simpa using hb
                | false => rw [hb] at this; cases this
            · obtain ⟨k, hk, rfl⟩ := List.mem_iff_getElem.1 hs
              have := b2 k hk
              rwa [show ZU n k = Jc n.Sections[k] n.Stations.length from Jt _ _ _ hk] at this
            · obtain ⟨k, hk, rfl⟩ := List.mem_iff_getElem.1 ht
              have := c2 k hk
              rw [show ZY n k = trE n.Trains[k] ((n.Trains.take k).map (·.Name)) n.Sections.length from Jt _ _ _ hk] at this
              unfold trE at this
              split at this
              · rename_i hc; exact absurd this hc
              · exact this
          · rw [c1] at h; exact absurd h c3
        · rw [b1] at h; exact absurd h b3
      · rw [a1] at h; exact absurd h a3
theorem QQt {t : FeedTrain} {m : Nat} (h : J6 t m = 0) : (0 ≤ t.Earliest ∧ t.Earliest ≤ 1000) ∧ (0 ≤ t.Latest ∧ t.Latest ≤ 1000) ∧ t.Earliest ≤ t.Latest ∧ 0 < t.Steps.length ∧ t.Steps.length ≤ 12 ∧ ∀ x ∈ t.Steps, 0 ≤ x.Section ∧ x.Section ≤ (m : Int) - 1 ∧ -20000 ≤ x.Power ∧ x.Power ≤ 20000 := by
  unfold J6 Qzr at h
  cases h1 : (decide (0 ≤ t.Earliest) && decide (t.Earliest ≤ 1000)) with
  | false => rw [h1] at h; cases h
  | true =>
    cases h2 : (decide (0 ≤ t.Latest) && decide (t.Latest ≤ 1000)) with
    | false => rw [h1, h2] at h; cases h
    | true =>
      cases h3 : decide (t.Earliest ≤ t.Latest) with
      | false => rw [h1, h2, h3] at h; cases h
      | true =>
        cases h4 : decide (0 < (t.Steps.length : Int)) with
        | false => rw [h1, h2, h3, h4] at h; cases h
        | true =>
          cases h5 : decide ((t.Steps.length : Int) ≤ 12) with
          | false => rw [h1, h2, h3, h4, h5] at h; cases h
          | true =>
            rw [h1, h2, h3, h4, h5] at h
            simp only [Bool.and_self, Bool.not_true, cond_false] at h
            unfold Qjz at h
            have hz := Qui h
            simp only [Bool.and_eq_true, decide_eq_true_eq] at h1 h2 h3 h4 h5
            refine ⟨h1, h2, h3, by omega, by omega, fun x hx => ?_⟩
            obtain ⟨k, hk, rfl⟩ := List.mem_iff_getElem.1 hx
            have := hz k hk
            rw [Qno _ _ _ hk] at this
            unfold Je at this
            cases a : (decide (0 ≤ t.Steps[k].Section) && decide (t.Steps[k].Section ≤ (m : Int) - 1)) with
            | false => rw [a] at this; cases this
            | true =>
              cases b : (decide (-20000 ≤ t.Steps[k].Power) && decide (t.Steps[k].Power ≤ 20000)) with
              | false => rw [a, b] at this; cases this
              | true =>
                simp only [Bool.and_eq_true, decide_eq_true_eq] at a b
                exact ⟨a.1, a.2, b.1, b.2⟩
theorem QNq {n : FeedNet} (hn : NetOk n) {d : FeedDeparture} {o : List FeedDeparture} (h : JO n d o = 0) : Zv n.Sections.length (Xd n d) := by
  have h0 := Qlq h
  obtain ⟨t, h1, h2, h3⟩ := Qkk h0
  have ht := QQt (hn.tr t (List.mem_of_getElem? h1))
  unfold JO at h
  rw [if_neg (by omega)] at h
  split at h
  · cases h
  · cases b : (decide (0 ≤ d.At) && decide (d.At ≤ 1000)) with
    | false => rw [b] at h; cases h
    | true =>
      simp only [Bool.and_eq_true, decide_eq_true_eq] at b
      unfold Zv Xd
      rw [h1]
      exact ⟨ht.2.2.2.2.2, ht.2.2.2.2.1, b.1, b.2⟩
end Go.Gw

end
section
set_option maxRecDepth 4096
namespace Go.Gw
open Go
structure LadOk (l : FeedLadder) : Prop where
  pos : 0 < l.Loads.length
  most : l.Loads.length ≤ 8
  len : l.Ohms.length = l.Loads.length + 1
  ohm : ∀ x ∈ l.Ohms, 1 ≤ x ∧ x ≤ 500
  load : ∀ x ∈ l.Loads, -20000 ≤ x ∧ x ≤ 20000
theorem Qfi {a b m n : Int} (ha : -m ≤ a ∧ a ≤ m) (hb : -n ≤ b ∧ b ≤ n) : -(m * n) ≤ a * b ∧ a * b ≤ m * n := by
  have h1 : a.natAbs ≤ m.natAbs := by omega
  have h2 : b.natAbs ≤ n.natAbs := by omega
  have h3 := Nat.mul_le_mul h1 h2
  rw [← Int.natAbs_mul, ← Int.natAbs_mul] at h3
  have h4 : 0 ≤ m * n := Int.mul_nonneg (by omega) (by omega)
  omega
section
variable {l : FeedLadder} (h : LadOk l)
include h
end
section
variable {l : FeedLadder} (h : LadOk l)
include h
end
end Go.Gw

end
section
set_option maxRecDepth 4096
namespace Go.Gw
open Go
def X2 (s : FeedSection) (p : Int) : Int := if p < 0 then p * (1000 - s.Loss) else p * (1000 + s.Loss)
def X7 (s : FeedSection) (k : Int) : Int := if s.Left = k then s.Share else if s.Right = k then 1000 - s.Share else 0
def Jg (s : FeedSection) : Prop := (0 ≤ s.Share ∧ s.Share ≤ 1000) ∧ 0 ≤ s.Loss ∧ s.Loss ≤ 500
theorem Qxr {s : FeedSection} {n : Nat} (h : Jc s n = 0) : Jg s := by
  unfold Jc Qxs at h
  have key : ((decide (0 ≤ s.Share) && decide (s.Share ≤ 1000)) && (decide (0 ≤ s.Loss) && decide (s.Loss ≤ 500))) = true := by
    cases hb : ((decide (0 ≤ s.Share) && decide (s.Share ≤ 1000)) && (decide (0 ≤ s.Loss) && decide (s.Loss ≤ 500))) with
    | true => rfl
    | false =>
      rw [hb] at h
      revert h
      generalize ((!(decide (s.Left = -1) || (decide (0 ≤ s.Left) && decide (s.Left ≤ (n : Int) - 1)))) || !(decide (s.Right = -1) || (decide (0 ≤ s.Right) && decide (s.Right ≤ (n : Int) - 1)))) = a
      generalize (decide (s.Left = -1) && decide (s.Right = -1)) = b
      generalize decide (s.Left = s.Right) = c
      cases a <;> cases b <;> cases c <;> intro h <;> cases h
  simp only [Bool.and_eq_true, decide_eq_true_eq] at key
  exact ⟨key.1, key.2⟩
theorem Qho {s : FeedSection} (hs : Jg s) {p : Int} (hp : -160000 ≤ p ∧ p ≤ 160000) : -240000000 ≤ X2 s p ∧ X2 s p ≤ 240000000 := by
  obtain ⟨_, h1, h2⟩ := hs
  unfold X2
  split
  · have := Qfi (a := p) (b := 1000 - s.Loss) (m := 160000) (n := 1500) hp (by omega); omega
  · have := Qfi (a := p) (b := 1000 + s.Loss) (m := 160000) (n := 1500) hp (by omega); omega
theorem Qox {s : FeedSection} (hs : Jg s) (k : Int) : -1000 ≤ X7 s k ∧ X7 s k ≤ 1000 := by
  obtain ⟨h0, _⟩ := hs
  unfold X7
  split
  · omega
  · split <;> omega
theorem Qre {s : FeedSection} (hs : Jg s) {p : Int} (hp : -160000 ≤ p ∧ p ≤ 160000) : Qcm s p = some (X2 s p) := by
  have hb := Qho hs hp
  obtain ⟨_, h1, h2⟩ := hs
  unfold Qcm X2 at *
  by_cases h : p < 0
  · rw [if_pos h] at hb ⊢
    rw [decide_eq_true h, cond_true, Ym (x := 1000 - s.Loss) (by omega), Ym (by omega)]
  · rw [if_neg h] at hb ⊢
    rw [decide_eq_false h, cond_false, Ym (x := 1000 + s.Loss) (by omega), Ym (by omega)]
theorem QMf {s : FeedSection} (hs : Jg s) {p : Int} (hp : -160000 ≤ p ∧ p ≤ 160000) : Qor s p = some (X2 s p) := Qre hs hp
theorem Qwt {s : FeedSection} (hs : Jg s) (k : Int) : Qfx s k = some (X7 s k) := by
  obtain ⟨h0, _⟩ := hs
  unfold Qfx X7
  by_cases h1 : s.Left = k
  · rw [decide_eq_true h1, if_pos h1]; rfl
  · rw [decide_eq_false h1, if_neg h1]
    by_cases h2 : s.Right = k
    · rw [decide_eq_true h2, if_pos h2]
      simp only [cond_false, cond_true]
      rw [Ym (by omega)]
    · rw [decide_eq_false h2, if_neg h2]; rfl
theorem QCy {s : FeedSection} (hs : Jg s) (k : Int) : Qcn s k = some (X7 s k) := by
  rw [← Qwt hs k]
  unfold Qcn Qfx
  rw [show decide (k = s.Left) = decide (s.Left = k) from decide_eq_decide.2 eq_comm, show decide (k = s.Right) = decide (s.Right = k) from decide_eq_decide.2 eq_comm]
end Go.Gw

end
section
set_option maxRecDepth 4096
namespace Go.Gw
open Go
def ZC (secs : List FeedSection) (f : Nat → Int) (k : Nat) : Nat → Int
  | 0 => 0
  | j + 1 => ZC secs f k j + (secs[j]?.map fun s => X2 s (f j) * X7 s (k : Int)).getD 0
section
variable {secs : List FeedSection} {f : Nat → Int} (hs : ∀ s ∈ secs, Jg s) (hf : ∀ j, -160000 ≤ f j ∧ f j ≤ 160000)
include hs hf
theorem QQq (k j : Nat) : -240000000000 ≤ (secs[j]?.map fun s => X2 s (f j) * X7 s (k : Int)).getD 0 ∧ (secs[j]?.map fun s => X2 s (f j) * X7 s (k : Int)).getD 0 ≤ 240000000000 := by
  by_cases hj : j < secs.length
  · rw [List.getElem?_eq_getElem hj]
    have h1 := hs _ (List.getElem_mem hj)
    have := Qfi (Qho h1 (hf j)) (Qox h1 (k : Int))
    simp only [Option.map_some, Option.getD_some]
    omega
  · rw [List.getElem?_eq_none (Nat.le_of_not_lt hj)]; simp
theorem Qnu (k : Nat) : ∀ j : Nat, -(240000000000 * (j : Int)) ≤ ZC secs f k j ∧ ZC secs f k j ≤ 240000000000 * (j : Int)
  | 0 => by simp [ZC]
  | j + 1 => by
    have h1 := Qnu k j
    have h2 := QQq hs hf k j
    simp only [ZC]
    omega
end
theorem Qum {secs : List FeedSection} {f : Nat → Int} {k j : Nat} (hj : j < secs.length) : (secs[j]?.map fun s => X2 s (f j) * X7 s (k : Int)).getD 0 = X2 secs[j] (f j) * X7 secs[j] (k : Int) := by
  rw [List.getElem?_eq_getElem hj]; rfl
theorem Qwu (m j : Nat) (hj : j < m) (f g : Nat → Int) : ((List.range m).map fun i => if i < j then g i else f i).set j (g j) = (List.range m).map fun i => if i < j + 1 then g i else f i := by
  apply List.ext_getElem?
  intro i
  by_cases hi : i = j
  · subst hi
    rw [List.getElem?_set_self (by simpa using hj)]
    simp [hj]
  · rw [List.getElem?_set_ne (Ne.symm hi)]
    by_cases him : i < m
    · simp only [List.getElem?_map, List.getElem?_range him, Option.map_some, Option.some.injEq]
      by_cases h1 : i < j
      · rw [if_pos h1, if_pos (by omega)]
      · rw [if_neg h1, if_neg (by omega)]
    · simp [him]
theorem Qup (m j : Nat) (hj : j < m) (f g : Nat → Int) : idx ((List.range m).map fun i => if i < j then g i else f i) (j : Int) = some (f j) := by
  rw [Xt?]
  simp [hj]
theorem QCz {s : FeedSection} (hs : Jg s) {p : Int} (hp : -160000 ≤ p ∧ p ≤ 160000) {m : Nat} (hm : m < 1000) {f : Nat → Int} (hf : ∀ i, -1000000000000000 ≤ f i ∧ f i ≤ 1000000000000000) :
    loop (Qcr p s ((List.range m).map f)) ((List.range m).map f, 0) = some ((List.range m).map fun i => f i + X2 s p * X7 s (i : Int)) := by
  have e0 : ((List.range m).map fun i => if i < 0 then f i + X2 s p * X7 s (i : Int) else f i) = (List.range m).map f := by
    apply List.map_congr_left; intro i _; simp
  have eN : ((List.range m).map fun i => if i < m then f i + X2 s p * X7 s (i : Int) else f i) = (List.range m).map fun i => f i + X2 s p * X7 s (i : Int) := by
    apply List.map_congr_left; intro i hi; rw [if_pos (List.mem_range.1 hi)]
  have hlen : (((List.range m).map f).length : Int) = (m : Int) := by simp
  have key := Zd (step := Qcr p s ((List.range m).map f)) (o := (List.range m).map fun i => f i + X2 s p * X7 s (i : Int)) (fun j => ((List.range m).map fun i => if i < j then f i + X2 s p * X7 s (i : Int) else f i, (j : Int))) m (fun j hj => by
    have hb := Qfi (Qho hs hp) (Qox hs (j : Int))
    have hfj := hf j
    unfold Qcr
    simp only [hlen, XB hj, cond_true, Qup m j hj f (fun i => f i + X2 s p * X7 s (i : Int)), Qu]
    rw [Qre hs hp, Qu, QCy hs, Qu, Ym (x := X2 s p * X7 s (j : Int)) (by omega), Ym (x := f j + X2 s p * X7 s (j : Int)) (by omega), XC j (by omega)]
    simp only [Int.toNat_natCast]
    rw [Qwu m j hj f (fun i => f i + X2 s p * X7 s (i : Int))]) (by
    unfold Qcr
    simp only [hlen, XK, cond_false, eN])
  simp only [e0] at key
  exact key
def Y8 (n : FeedNet) (f : Nat → Int) : List Int := (List.range n.Stations.length).map fun k => ZC n.Sections f k n.Sections.length
theorem QDd {n : FeedNet} (hn : NetOk n) {l : List feed_run} (hl : l.length ≤ 8) (h : ∀ r ∈ l, Zv n.Sections.length r) {t : Int} (ht : 0 ≤ t) (ht2 : t ≤ 100000) : Qcs ⟨n⟩ l t = some (Y8 n (XS l t)) := by
  have h1 := hn.st6
  have h2 := hn.se10
  have hs : ∀ s ∈ n.Sections, Jg s := fun s hx => Qxr (hn.sec s hx)
  have hf : ∀ j, -160000 ≤ XS l t j ∧ XS l t j ≤ 160000 := fun j => by have := Qol h t j; omega
  have hlen : (((List.range n.Sections.length).map (XS l t)).length : Int) = (n.Sections.length : Int) := by simp
  have key : loop (Qer ⟨n⟩ ((List.range n.Sections.length).map (XS l t))) ((List.range n.Stations.length).map (fun _ => (0 : Int)), 0) = some (Y8 n (XS l t)) :=
    Zd (fun j => ((List.range n.Stations.length).map (fun k => ZC n.Sections (XS l t) k j), (j : Int))) n.Sections.length (fun j hj => by
      have hb : ∀ k, -1000000000000000 ≤ ZC n.Sections (XS l t) k j ∧ ZC n.Sections (XS l t) k j ≤ 1000000000000000 := fun k => by have := Qnu hs hf k j; omega
      have hidx : idx ((List.range n.Sections.length).map (XS l t)) (j : Int) = some (XS l t j) := by rw [Xt?]; simp [hj]
      unfold Qer
      simp only [hlen, XB hj, cond_true, hidx, Qu, Xt hj]
      rw [QCz (hs _ (List.getElem_mem hj)) (hf j) (by omega) hb, Qu, XC j (by omega)]
      congr 3
      apply List.map_congr_left
      intro k _
      simp only [ZC, Qum hj]) (by
      unfold Qer Y8
      simp only [hlen, XK, cond_false])
  unfold Qcs
  show (Option.bind (mk (n.Stations.length : Int) (0 : Int)) _) = _
  rw [Qnw _ (by omega), Qu, QLy (by omega) hl h ht ht2, Qu, key]
  rfl
theorem QMg {s : FeedSection} (hs : Jg s) {p : Int} (hp : -160000 ≤ p ∧ p ≤ 160000) {m : Nat} (hm : m < 1000) {f : Nat → Int} (hf : ∀ i, -1000000000000000 ≤ f i ∧ f i ≤ 1000000000000000) :
    loop (Qft s (X2 s p)) ((List.range m).map f, 0) = some ((List.range m).map fun i => f i + X2 s p * X7 s (i : Int)) := by
  have e0 : ((List.range m).map fun i => if i < 0 then f i + X2 s p * X7 s (i : Int) else f i) = (List.range m).map f := by
    apply List.map_congr_left; intro i _; simp
  have eN : ((List.range m).map fun i => if i < m then f i + X2 s p * X7 s (i : Int) else f i) = (List.range m).map fun i => f i + X2 s p * X7 s (i : Int) := by
    apply List.map_congr_left; intro i hi; rw [if_pos (List.mem_range.1 hi)]
  have key := Zd (step := Qft s (X2 s p)) (o := (List.range m).map fun i => f i + X2 s p * X7 s (i : Int)) (fun j => ((List.range m).map fun i => if i < j then f i + X2 s p * X7 s (i : Int) else f i, (j : Int))) m (fun j hj => by
    have hb := Qfi (Qho hs hp) (Qox hs (j : Int))
    have hfj := hf j
    have hlen : (((List.range m).map fun i => if i < j then f i + X2 s p * X7 s (i : Int) else f i).length : Int) = (m : Int) := by simp
    unfold Qft
    simp only [hlen, XB hj, cond_true, Qup m j hj f (fun i => f i + X2 s p * X7 s (i : Int)), Qu]
    rw [Qwt hs, Qu, Ym (x := X2 s p * X7 s (j : Int)) (by omega), Ym (x := f j + X2 s p * X7 s (j : Int)) (by omega), XC j (by omega)]
    simp only [Int.toNat_natCast]
    rw [Qwu m j hj f (fun i => f i + X2 s p * X7 s (i : Int))]) (by
    have hlen : (((List.range m).map fun i => f i + X2 s p * X7 s (i : Int)).length : Int) = (m : Int) := by simp
    unfold Qft
    simp only [eN, hlen, XK, cond_false])
  simp only [e0] at key
  exact key
theorem QMj {n : FeedNet} (hn : NetOk n) {l : List FeedDeparture} {t : Int} {f : Nat → Int} (hf : ∀ j, -160000 ≤ f j ∧ f j ≤ 160000) (hp : ∀ j : Nat, j < n.Sections.length → Qfv n l (j : Int) t = some (f j)) : Qfu n l t = some (Y8 n f) := by
  have h1 := hn.st6
  have h2 := hn.se10
  have hs : ∀ s ∈ n.Sections, Jg s := fun s hx => Qxr (hn.sec s hx)
  have key : loop (Qjc l n t) ((List.range n.Stations.length).map (fun _ => (0 : Int)), 0) = some (Y8 n f) :=
    Zd (fun j => ((List.range n.Stations.length).map (fun k => ZC n.Sections f k j), (j : Int))) n.Sections.length (fun j hj => by
      have hb : ∀ k, -1000000000000000 ≤ ZC n.Sections f k j ∧ ZC n.Sections f k j ≤ 1000000000000000 := fun k => by have := Qnu hs hf k j; omega
      unfold Qjc
      simp only [XB hj, cond_true, Xt hj, Qu, hp j hj]
      rw [QMf (hs _ (List.getElem_mem hj)) (hf j), Qu, QMg (hs _ (List.getElem_mem hj)) (hf j) (by omega) hb, Qu, XC j (by omega)]
      congr 3
      apply List.map_congr_left
      intro k _
      simp only [ZC, Qum hj]) (by
      unfold Qjc Y8
      simp only [XK, cond_false])
  unfold Qfu
  rw [Qnw _ (by omega), Qu, key]
  rfl
end Go.Gw

end
section
set_option maxRecDepth 4096
namespace Go.Gw
open Go
def pd (t : Int) (s : Nat) (r : feed_run) : List Int := if 0 ≤ t - r.at_ ∧ t - r.at_ ≤ (r.FeedTrain.Steps.length : Int) - 1 then (match r.FeedTrain.Steps[(t - r.at_).toNat]? with | some x => if x.Section = (s : Int) then [x.Power] else [] | none => []) else []
theorem QLx (t : Int) (s : Nat) (r : feed_run) : (pd t s r).sum = Jo r.FeedTrain.Steps (t - r.at_) s := by
  unfold pd Jo
  by_cases h : 0 ≤ t - r.at_ ∧ t - r.at_ ≤ (r.FeedTrain.Steps.length : Int) - 1
  · rw [if_pos h, if_pos h]
    cases hx : r.FeedTrain.Steps[(t - r.at_).toNat]? with
    | none => rfl
    | some x => by_cases hs : x.Section = (s : Int) <;> simp [hs]
  · rw [if_neg h, if_neg h]; rfl
theorem QLv (t : Int) (s : Nat) (r : feed_run) : (pd t s r).length ≤ 1 := by
  unfold pd
  split
  · split
    · split <;> simp
    · simp
  · simp
theorem QLw {m : Nat} {r : feed_run} (h : Zv m r) (t : Int) (s : Nat) : ∀ x ∈ pd t s r, -20000 ≤ x ∧ x ≤ 20000 := by
  intro x hx
  unfold pd at hx
  split at hx
  · split at hx
    · rename_i y hy
      split at hx
      · obtain rfl := List.mem_singleton.1 hx
        have := h.1 y (List.mem_of_getElem? hy); omega
      · cases hx
    · cases hx
  · cases hx
theorem Quk (t : Int) (s : Nat) : ∀ l : List feed_run, (l.flatMap (pd t s)).sum = XS l t s
  | [] => rfl
  | r :: l => by
    rw [List.flatMap_cons, List.sum_append, Quk t s l, QLx]
    simp [XS]
theorem Qnk (t : Int) (s : Nat) : ∀ l : List feed_run, (l.flatMap (pd t s)).length ≤ l.length
  | [] => by simp
  | r :: l => by
    rw [List.flatMap_cons, List.length_append]
    have := Qnk t s l
    have := QLv t s r
    rw [List.length_cons]; omega
theorem QMo {n : FeedNet} (hn : n.Trains.length < 1000) {l : List FeedDeparture} (hl : l.length ≤ 8) {m : Nat} (h0 : ∀ d ∈ l, 0 ≤ Ys n d.Train) (h : ∀ d ∈ l, Zv m (Xd n d)) {t : Int} (ht : 0 ≤ t) (ht2 : t ≤ 100000) (s : Nat) :
    Qji n l (s : Int) t = some ((l.map (Xd n)).flatMap (pd t s)) := by
  have key : loop (Qjh l n (s : Int) t) (([] : List Int), 0) = some ((l.map (Xd n)).flatMap (pd t s)) :=
    Zd (fun k => (((l.take k).map (Xd n)).flatMap (pd t s), (k : Int))) l.length (fun k hk => by
      have hd := List.getElem_mem hk
      obtain ⟨T, h1, h2, h3⟩ := Qkk (h0 _ hd)
      have hr := h _ hd
      have hrun : Xd n l[k] = feed_run.mk T l[k].At := by unfold Xd; rw [h1]; rfl
      obtain ⟨r1, r2, r3, r4⟩ := hr
      rw [hrun] at r1 r2 r3 r4
      have hidx : idx n.Trains (Ys n l[k].Train) = some T := by unfold idx; rw [if_pos (h0 _ hd)]; exact h1
      have hlen := Qnk t s ((l.take k).map (Xd n))
      have hnext : ((l.take k).map (Xd n)).flatMap (pd t s) ++ pd t s (Xd n l[k]) = ((l.take (k + 1)).map (Xd n)).flatMap (pd t s) := by
        rw [← Qkb l (Xd n) k hk, List.flatMap_append]; simp
      have hlk : ((l.take k).map (Xd n)).length ≤ 8 := by simp; omega
      unfold Qjh
      simp only [XB hk, cond_true, Xt hk, Qu]
      rw [Qon n _ (by omega), Qu, hidx, Qu, Qu]
      simp only []
      simp only at r2 r3 r4
      rw [Ym (x := t - l[k].At) (by omega), Ym (x := (T.Steps.length : Int) - 1) (by omega), Qcj, Qu, XC k (by omega), ← hnext, hrun]
      unfold pd
      by_cases hin : 0 ≤ t - l[k].At ∧ t - l[k].At ≤ (T.Steps.length : Int) - 1
      · have hk2 : (t - l[k].At).toNat < T.Steps.length := by omega
        have hi2 : idx T.Steps (t - l[k].At) = some T.Steps[(t - l[k].At).toNat] := by unfold idx; rw [if_pos hin.1, List.getElem?_eq_getElem hk2]
        rw [decide_eq_true hin.1, decide_eq_true hin.2, if_pos hin, List.getElem?_eq_getElem hk2]
        simp only [Bool.and_self, cond_true, Bool.true_and, hi2, Qu]
        by_cases hsec : T.Steps[(t - l[k].At).toNat].Section = (s : Int)
        · rw [decide_eq_true hsec, if_pos hsec, cond_true, ZM (by show (((l.take k).map (Xd n)).flatMap (pd t s)).length + 1 ≤ 1073741824; omega), Qu]
        · rw [decide_eq_false hsec, if_neg hsec, cond_false, List.append_nil]
      · have e : (decide (0 ≤ t - l[k].At) && decide (t - l[k].At ≤ (T.Steps.length : Int) - 1)) = false := by
          rw [Bool.eq_false_iff]; intro e; simp only [Bool.and_eq_true, decide_eq_true_eq] at e; exact hin e
        rw [e, if_neg hin]
        simp only [cond_false, Qu, Bool.false_and, List.append_nil]) (by
      unfold Qjh
      simp only [XK, cond_false, List.take_length])
  unfold Qji
  rw [key, Qu]
theorem QMn {n : FeedNet} (hn : n.Trains.length < 1000) {l : List FeedDeparture} (hl : l.length ≤ 8) {m : Nat} (h0 : ∀ d ∈ l, 0 ≤ Ys n d.Train) (h : ∀ d ∈ l, Zv m (Xd n d)) {t : Int} (ht : 0 ≤ t) (ht2 : t ≤ 100000) (s : Nat) :
    Qfv n l (s : Int) t = some (XS (l.map (Xd n)) t s) := by
  unfold Qfv
  rw [QMo hn hl h0 h ht ht2, Qu, QPu (c := 20000) (by omega) (by omega) (fun x hx => ?_) (by have := Qnk t s (l.map (Xd n)); rw [List.length_map] at this; omega), Qu, Quk]
  obtain ⟨r, hr, hx⟩ := List.mem_flatMap.1 hx
  obtain ⟨d, hd, rfl⟩ := List.mem_map.1 hr
  exact QLw (h d hd) t s x hx
end Go.Gw

end
section
set_option maxRecDepth 4096
namespace Go.Gw
open Go
theorem Qrb {α : Type} [DecidableEq α] : ∀ (a b : List α) (hl : a.length = b.length) (k : Nat), (jn0 (XW (fun (x : α × α) => !decide (x.1 = x.2)) (fun _ _ => false) k (a.zip b)) fun (_ : Unit) => some true) = some (decide (a = b))
  | [], [], _, k => by simp [XW, jn0]
  | [], _ :: _, hl, _ => by simp at hl
  | _ :: _, [], hl, _ => by simp at hl
  | x :: a, y :: b, hl, k => by
    by_cases hxy : x = y
    · subst hxy
      have := Qrb a b (by simpa using hl) (k + 1)
      simp only [List.zip_cons_cons, XW]
      simpa using this
    · simp [XW, hxy, jn0]
theorem QAl {α : Type} {a b : List α} (hl : a.length = b.length) : (a.zip b).length = a.length := by simp [hl]
end Go.Gw

end
section
set_option maxRecDepth 4096
namespace Go.Gw
open Go
def Qhn (n : FeedNet) (l : List FeedDeparture) : Int := if 6 < l.length then 8 else match X6 (Y2 n l) l.length with | some i => Y2 n l i | none => 0
def Z5 (n : FeedNet) (l : List FeedDeparture) : Int := if (JI n).2 ≠ 0 then (JI n).2 else Qhn n l
theorem QLc {n : FeedNet} (h : NetS n) (l : List FeedDeparture) : Qbh n l = some (⟨n⟩, (if Z5 n l = 0 then l.map (Xd n) else []), Z5 n l) := by
  unfold Qbh Qew Z5
  rw [QCx h, Qu, Qu]
  by_cases h0 : (JI n).2 = 0
  · simp only [h0, ne_eq, not_true_eq_false, if_false, decide_true, Bool.not_true, cond_false]
    rw [show feed_net.mk (FeedNet.mk n.Stations n.Sections n.Trains) = feed_net.mk n from rfl, QDh n l h.tr, Qu]
    unfold Qhn
    by_cases h6 : 6 < l.length
    · simp [h6]
    · rw [if_neg h6, if_neg h6]
      rcases Qda (Y2 n l) l.length with ⟨e, _⟩ | ⟨i, e, _, hi, _⟩
      · rw [e]; simp
      · rw [e]; simp [hi]
  · simp [h0]
theorem QMc {n : FeedNet} (h : NetS n) (l : List FeedDeparture) : Qiq n l = some (Z5 n l) := by
  unfold Qiq Qop Z5 Qhn
  rw [QMe h, Qu]
  by_cases h0 : (JI n).2 = 0
  · simp only [h0, ne_eq, not_true_eq_false, if_false, decide_true, Bool.not_true, cond_false, Qu]
    rw [QMd n l h.tr, Qu]
    by_cases h6 : 6 < l.length
    · rw [if_pos h6, if_pos h6]
    · rw [if_neg h6, if_neg h6]
      cases X6 (Y2 n l) l.length <;> rfl
  · simp [h0]
theorem QHz (a b : List Int) (ha : a.length < 1000000) : Qbc a b = some (decide (a = b)) := by
  unfold Qbc
  by_cases hl : a.length = b.length
  · rw [decide_eq_true (by omega), Bool.not_true, cond_false, ZR (a.zip b) (fun x => !decide (x.1 = x.2)) (fun _ _ => false), Qu, Qrb a b hl]
    · intro k hk
      rw [QAl hl] at hk
      unfold Qgy
      rw [XB hk, cond_true, Xt hk, Qu, Xt (show k < b.length by omega), Qu, XC k (by omega)]
      simp only [List.getElem_zip]
    · rw [QAl hl]
      unfold Qgy
      rw [XK]; rfl
  · rw [decide_eq_false (by omega)]
    simp only [Bool.not_false, cond_true]
    rw [decide_eq_false]
    intro e; exact hl (by rw [e])
theorem Qlk {n : FeedNet} {l : List FeedDeparture} (h : Z5 n l = 0) : NetOk n ∧ l.length ≤ 6 ∧ ∀ d ∈ l, Zv n.Sections.length (Xd n d) ∧ 0 ≤ Ys n d.Train := by
  unfold Z5 at h
  by_cases h0 : (JI n).2 = 0
  · have hn := QIz h0
    simp only [h0, ne_eq, not_true_eq_false, if_false] at h
    unfold Qhn at h
    by_cases h6 : 6 < l.length
    · rw [if_pos h6] at h; omega
    · rw [if_neg h6] at h
      refine ⟨hn, by omega, fun d hd => ?_⟩
      obtain ⟨k, hk, rfl⟩ := List.getElem_of_mem hd
      have hz := Qui h k hk
      unfold Y2 at hz
      rw [List.getElem?_eq_getElem hk] at hz
      exact ⟨QNq hn hz, Qlq hz⟩
  · rw [if_pos h0] at h; exact absurd h h0
end Go.Gw

end
section
set_option maxRecDepth 4096
namespace Go.Gw
open Go
structure Rt (n : FeedNet) (l : List FeedDeparture) : Prop where
  ne : NetOk n
  tr : n.Trains.length < 1000
  l6 : l.length ≤ 6
  ru : ∀ d ∈ l, Zv n.Sections.length (Xd n d) ∧ 0 ≤ Ys n d.Train
theorem Qxf {n : FeedNet} (h : NetS n) {l : List FeedDeparture} (hb : Z5 n l = 0) : Rt n l := ⟨(Qlk hb).1, h.tr, (Qlk hb).2.1, (Qlk hb).2.2⟩
section
variable {n : FeedNet} {l : List FeedDeparture} (h : Rt n l)
include h
theorem Qjo : ∀ r ∈ l.map (Xd n), Zv n.Sections.length r := fun r hr => by obtain ⟨d, hd2, rfl⟩ := List.mem_map.1 hr; exact (h.ru d hd2).1
theorem QMh {t : Int} (ht : 0 ≤ t) (ht2 : t ≤ 100000) : Qfu n l t = some (Y8 n (XS (l.map (Xd n)) t)) :=
  QMj h.ne (fun j => by have := Qol (Qjo h) t j; rw [List.length_map] at this; have := h.l6; omega) (fun j _ => QMn h.tr (by have := h.l6; omega) (fun d hd => (h.ru d hd).2) (fun d hd => (h.ru d hd).1) ht ht2 j)
end
end Go.Gw

end
section
set_option maxRecDepth 4096
namespace Go.Gw
open Go
def fsO {α ρ μ : Type} (o : Option α) (res : α → ρ) (u : μ) : ρ ⊕ μ := match o with | some a => .inl (res a) | none => .inr u
theorem Qii {α σ ρ μ : Type} {step : σ → Option (σ ⊕ (ρ ⊕ μ))} (S : Nat → σ) (n : Nat) (f : Nat → Option α) (res : α → ρ) (o : μ)
    (hs : ∀ k, k < n → step (S k) = some (match f k with | some a => .inr (.inl (res a)) | none => .inl (S (k + 1))))
    (he : step (S n) = some (.inr (.inr o))) : loop step (S 0) = some (fsO ((List.range n).findSome? f) res o) := by
  have key : ∀ j k, k + j = n → loop step (S k) = some (fsO ((List.range' k j).findSome? f) res o) := by
    intro j
    induction j with
    | zero => intro k hk; obtain rfl : k = n := by omega
              exact ZQ he
    | succ j ih =>
      intro k hk
      have h1 := hs k (by omega)
      rw [List.range'_succ, List.findSome?_cons]
      cases hf : f k with
      | some a => rw [hf] at h1; exact ZQ h1
      | none => rw [hf] at h1; rw [Qbk h1]; exact ih (k + 1) (by omega)
  rw [List.range_eq_range']
  exact key n 0 (by omega)
theorem Qhz {α β : Type} (f : β → α → β) (a : β) (l : List α) (k : Nat) (hk : k < l.length) : (l.take (k + 1)).foldl f a = f ((l.take k).foldl f a) l[k] := by
  rw [List.take_add_one, List.getElem?_eq_getElem hk, List.foldl_append]; rfl
def loF (a : Int) (r : feed_run) : Int := if r.at_ < a then r.at_ else a
def hiF (a : Int) (r : feed_run) : Int := if a < r.at_ + 12 then r.at_ + 12 else a
def YU (rs : List feed_run) : Int := rs.foldl loF 1012
def ZP (rs : List feed_run) : Int := rs.foldl hiF 0
def Qfh (n : FeedNet) (k : Nat) : Int := (n.Stations[k]?.map (·.Limit)).getD 0
def ldR (n : FeedNet) (rs : List feed_run) (t : Int) (k : Nat) : Int := ZC n.Sections (XS rs t) k n.Sections.length
def ov1 (n : FeedNet) (rs : List feed_run) (t : Int) (k : Nat) : Option FeedPeak := if 1000000 * Qfh n k < ldR n rs t k then some (FeedPeak.mk t k (ldR n rs t k)) else none
def Z9 (n : FeedNet) (rs : List feed_run) (t : Int) : Option FeedPeak := (List.range n.Stations.length).findSome? (ov1 n rs t)
def ovR (n : FeedNet) (rs : List feed_run) : Option FeedPeak := (List.range (ZP rs - YU rs + 1).toNat).findSome? fun (j : Nat) => Z9 n rs (YU rs + j)
def pkB (o : Option FeedPeak) : FeedPeak × Bool := match o with | some p => (p, true) | none => (FeedPeak.mk 0 0 0, false)
theorem Qve {rs : List feed_run} (h : ∀ r ∈ rs, 0 ≤ r.at_ ∧ r.at_ ≤ 1000) : 0 ≤ YU rs ∧ YU rs ≤ 1012 := by
  have key : ∀ (l : List feed_run) a, (∀ r ∈ l, 0 ≤ r.at_ ∧ r.at_ ≤ 1000) → 0 ≤ a ∧ a ≤ 1012 → 0 ≤ l.foldl loF a ∧ l.foldl loF a ≤ 1012 := by
    intro l
    induction l with
    | nil => intro a _ h; exact h
    | cons r l ih =>
      intro a hr ha
      have := hr r (List.mem_cons_self ..)
      exact ih _ (fun x hx => hr x (List.mem_cons_of_mem _ hx)) (by unfold loF; split <;> omega)
  exact key rs 1012 h (by omega)
theorem Qun {rs : List feed_run} (h : ∀ r ∈ rs, 0 ≤ r.at_ ∧ r.at_ ≤ 1000) : 0 ≤ ZP rs ∧ ZP rs ≤ 1012 := by
  have key : ∀ (l : List feed_run) a, (∀ r ∈ l, 0 ≤ r.at_ ∧ r.at_ ≤ 1000) → 0 ≤ a ∧ a ≤ 1012 → 0 ≤ l.foldl hiF a ∧ l.foldl hiF a ≤ 1012 := by
    intro l
    induction l with
    | nil => intro a _ h; exact h
    | cons r l ih =>
      intro a hr ha
      have := hr r (List.mem_cons_self ..)
      exact ih _ (fun x hx => hr x (List.mem_cons_of_mem _ hx)) (by unfold hiF; split <;> omega)
  exact key rs 0 h (by omega)
theorem Qhl (x y : Int) : Qao x y = some (if x < y then -1 else if y < x then 1 else 0) := by
  unfold Qao Qei
  simp only [decide_true, Bool.not_true, Qu, cond_false]
  by_cases h1 : x < y
  · simp [h1]
  · by_cases h2 : y < x <;> simp [h1, h2]
def mnF (a r : feed_run) : feed_run := if r.at_ < a.at_ then r else a
def JH (a r : feed_run) : feed_run := if a.at_ < r.at_ then r else a
def JT (r : feed_run) : ByteArray × Int × Int × List FeedStep × Int := (r.FeedTrain.Name, r.FeedTrain.Earliest, r.FeedTrain.Latest, r.FeedTrain.Steps, r.at_)
theorem QIt (r0 : feed_run) (l : List feed_run) (hl : l.length < 1000000) : Qgg (r0 :: l) = some (l.foldl mnF r0) := by
  have key : loop (Qgf (r0 :: l)) (1, JT r0) = some (JT (l.foldl mnF r0)) :=
    Zd (fun k => ((k : Int) + 1, JT ((l.take k).foldl mnF r0))) l.length (fun k hk => by
      unfold Qgf Qct JT
      have hi : idx (r0 :: l) ((k : Int) + 1) = some l[k] := by
        rw [show (k : Int) + 1 = ((k + 1 : Nat) : Int) by omega, Xt (show k + 1 < (r0 :: l).length by simpa using hk)]; rfl
      simp only [hi, Qu, Qhl, Qhz _ _ _ _ hk]
      rw [decide_eq_true (by simp; omega), cond_true, Ym (x := (k : Int) + 1 + 1) (by omega)]
      generalize List.foldl mnF r0 (List.take k l) = a
      unfold mnF
      by_cases h1 : l[k].at_ < a.at_
      · simp [h1]
      · by_cases h2 : a.at_ < l[k].at_ <;> simp [h1, h2]) (by
      unfold Qgf
      rw [List.take_length]
      unfold JT
      simp)
  unfold Qgg
  rw [decide_eq_false (show ¬ (((r0 :: l).length : Nat) : Int) < 1 by simp; omega), cond_false, Qu, show idx (r0 :: l) 0 = some r0 from rfl, Qu]
  exact (congrArg (fun o => Option.bind o _) key).trans rfl
theorem QIo (r0 : feed_run) (l : List feed_run) (hl : l.length < 1000000) : Qge (r0 :: l) = some (l.foldl JH r0) := by
  have key : loop (Qgd (r0 :: l)) (1, JT r0) = some (JT (l.foldl JH r0)) :=
    Zd (fun k => ((k : Int) + 1, JT ((l.take k).foldl JH r0))) l.length (fun k hk => by
      unfold Qgd Qct JT
      have hi : idx (r0 :: l) ((k : Int) + 1) = some l[k] := by
        rw [show (k : Int) + 1 = ((k + 1 : Nat) : Int) by omega, Xt (show k + 1 < (r0 :: l).length by simpa using hk)]; rfl
      simp only [hi, Qu, Qhl, Qhz _ _ _ _ hk]
      rw [decide_eq_true (by simp; omega), cond_true, Ym (x := (k : Int) + 1 + 1) (by omega)]
      generalize List.foldl JH r0 (List.take k l) = a
      unfold JH
      by_cases h1 : l[k].at_ < a.at_
      · have h2 : ¬ a.at_ < l[k].at_ := by omega
        simp [h1, h2]
      · by_cases h2 : a.at_ < l[k].at_ <;> simp [h1, h2]) (by
      unfold Qgd
      rw [List.take_length]
      unfold JT
      simp)
  unfold Qge
  rw [decide_eq_false (show ¬ (((r0 :: l).length : Nat) : Int) < 1 by simp; omega), cond_false, Qu, show idx (r0 :: l) 0 = some r0 from rfl, Qu]
  exact (congrArg (fun o => Option.bind o _) key).trans rfl
theorem QIv (r0 : feed_run) (l : List feed_run) : (l.foldl mnF r0).at_ = l.foldl loF r0.at_ := by
  induction l generalizing r0 with
  | nil => rfl
  | cons r l ih => rw [List.foldl_cons, List.foldl_cons, ih]; congr 1; unfold mnF loF; split <;> rfl
theorem QIw (r0 : feed_run) (l : List feed_run) : (l.foldl JH r0).at_ + 12 = l.foldl hiF (r0.at_ + 12) := by
  induction l generalizing r0 with
  | nil => rfl
  | cons r l ih => rw [List.foldl_cons, List.foldl_cons, ih]; congr 1; unfold JH hiF; split <;> split <;> first | rfl | omega
section
variable {n : FeedNet} {rs : List feed_run} (hn : NetOk n) (hl : rs.length ≤ 8) (h : ∀ r ∈ rs, Zv n.Sections.length r)
include hn
theorem Qvd {k : Nat} (hk : k < n.Stations.length) : w64 (1000000 * n.Stations[k].Limit) = 1000000 * Qfh n k := by
  have := hn.lim _ (List.getElem_mem hk)
  unfold Qfh
  rw [Ym (by omega), List.getElem?_eq_getElem hk]; rfl
include hl h
theorem QDe {t : Int} (ht : 0 ≤ t) (ht2 : t ≤ 1012) {R : feed_run} (hR : t ≤ R.at_ + 12) (hR2 : R.at_ ≤ 100000) (hR3 : -100000 ≤ R.at_): Qcv rs ⟨n⟩ R t = some (match Z9 n rs t with | some p => .inr (.inl (p, true)) | none => .inl (t + 1)) := by
  have hlen : ((Y8 n (XS rs t)).length : Int) = (n.Stations.length : Int) := by unfold Y8; simp
  have hst := hn.st6
  have key : loop (Qcu ⟨n⟩ (Y8 n (XS rs t)) t) 0 = some (fsO (Z9 n rs t) (fun p => .inr (.inl (p, true))) ()) :=
    Qii (ρ := Int ⊕ ((FeedPeak × Bool) ⊕ Unit)) (step := Qcu ⟨n⟩ (Y8 n (XS rs t)) t) (fun k => (k : Int)) n.Stations.length (ov1 n rs t) (fun p => .inr (.inl (p, true))) () (fun k hk => by
      have hi : idx (Y8 n (XS rs t)) (k : Int) = some (ldR n rs t k) := by
        unfold Y8; rw [Xt?, List.getElem?_map, List.getElem?_range hk]; rfl
      unfold Qcu ov1
      rw [hlen, XB hk, cond_true, hi, Qu]
      simp only [Xt hk, Qu]
      rw [Qvd hn hk, XC k (by omega)]
      by_cases hc : 1000000 * Qfh n k < ldR n rs t k
      · rw [decide_eq_true hc, if_pos hc]; rfl
      · rw [decide_eq_false hc, if_neg hc]; rfl) (by
      unfold Qcu
      rw [hlen, XK]; rfl)
  unfold Qcv
  rw [Ym (x := R.at_ + 12) (by omega), decide_eq_true hR, cond_true, QDd hn hl h ht (by omega), Qu, key, Qu, Ym (x := t + 1) (by omega)]
  cases Z9 n rs t <;> rfl
theorem QDf : Qbg ⟨n⟩ rs = some (pkB (ovR n rs)) := by
  cases rs with
  | nil => simp [Qbg, ovR, ZP, YU, pkB]
  | cons r0 l =>
    have hat : ∀ r ∈ r0 :: l, 0 ≤ r.at_ ∧ r.at_ ≤ 1000 := fun r hr => ⟨(h r hr).2.2.1, (h r hr).2.2.2⟩
    have h0 := hat r0 (List.mem_cons_self ..)
    have hlo : (l.foldl mnF r0).at_ = YU (r0 :: l) := by
      rw [QIv]; unfold YU; rw [List.foldl_cons]; congr 1; unfold loF; split <;> omega
    have hhi : (l.foldl JH r0).at_ + 12 = ZP (r0 :: l) := by
      rw [QIw]; unfold ZP; rw [List.foldl_cons]; congr 1; unfold hiF; split <;> omega
    have b1 := Qve hat
    have b2 := Qun hat
    have hlen : l.length < 1000000 := by rw [List.length_cons] at hl; omega
    have key := Qii (step := Qcv (r0 :: l) ⟨n⟩ (l.foldl JH r0)) (fun k => YU (r0 :: l) + (k : Int)) (ZP (r0 :: l) - YU (r0 :: l) + 1).toNat (fun (j : Nat) => Z9 n (r0 :: l) (YU (r0 :: l) + j)) (fun p => (p, true)) () (fun k hk => by
      have hk2 : YU (r0 :: l) + (k : Int) ≤ ZP (r0 :: l) := by omega
      rw [QDe hn hl h (R := l.foldl JH r0) (by omega) (by omega) (by omega) (by omega) (by omega)]
      cases Z9 n (r0 :: l) (YU (r0 :: l) + (k : Int)) with
      | some p => rfl
      | none => simp only; congr 2; omega) (by
      unfold Qcv
      rw [Ym (x := (l.foldl JH r0).at_ + 12) (by omega), decide_eq_false (by omega)]; rfl)
    unfold Qbg
    rw [decide_eq_false (show ¬ ((((r0 :: l).length : Nat) : Int) = 0) by simp; omega), cond_false, QIt r0 l hlen, Qu, QIo r0 l hlen, Qu, hlo]
    simp only [Int.natCast_zero, Int.add_zero] at key
    rw [key, Qu]
    unfold ovR
    cases (List.range (ZP (r0 :: l) - YU (r0 :: l) + 1).toNat).findSome? (fun (j : Nat) => Z9 n (r0 :: l) (YU (r0 :: l) + j)) <;> rfl
end
section
variable {n : FeedNet} {l : List FeedDeparture} (h : Rt n l)
include h
theorem QMk {t hi : Int} (ht : 0 ≤ t) (ht2 : t ≤ 1012) (hh : t ≤ hi) : Qfp n l hi t = some (match Z9 n (l.map (Xd n)) t with | some p => .inr (.inl (p, true)) | none => .inl (t + 1)) := by
  have hlen : ((Y8 n (XS (l.map (Xd n)) t)).length : Int) = (n.Stations.length : Int) := by unfold Y8; simp
  have hst := h.ne.st6
  have key : loop (Qfo n (Y8 n (XS (l.map (Xd n)) t)) t) 0 = some (fsO (Z9 n (l.map (Xd n)) t) (fun p => .inr (.inl (p, true))) ()) :=
    Qii (ρ := Int ⊕ ((FeedPeak × Bool) ⊕ Unit)) (step := Qfo n (Y8 n (XS (l.map (Xd n)) t)) t) (fun k => (k : Int)) n.Stations.length (ov1 n (l.map (Xd n)) t) (fun p => .inr (.inl (p, true))) () (fun k hk => by
      have hi : idx (Y8 n (XS (l.map (Xd n)) t)) (k : Int) = some (ldR n (l.map (Xd n)) t k) := by
        unfold Y8; rw [Xt?, List.getElem?_map, List.getElem?_range hk]; rfl
      unfold Qfo ov1
      rw [hlen, XB hk, cond_true, hi, Qu]
      simp only [Xt hk, Qu]
      rw [Qvd h.ne hk, XC k (by omega)]
      by_cases hc : 1000000 * Qfh n k < ldR n (l.map (Xd n)) t k
      · rw [decide_eq_true hc, if_pos hc]; rfl
      · rw [decide_eq_false hc, if_neg hc]; rfl) (by
      unfold Qfo
      rw [hlen, XK]; rfl)
  unfold Qfp
  rw [decide_eq_true hh, cond_true, QMh h ht (by omega), Qu, key, Qu, Ym (x := t + 1) (by omega)]
  cases Z9 n (l.map (Xd n)) t <;> rfl
theorem QMl : Qfq n l = some (pkB (ovR n (l.map (Xd n)))) := by
  have hat : ∀ r ∈ l.map (Xd n), 0 ≤ r.at_ ∧ r.at_ ≤ 1000 := fun r hr => ⟨(Qjo h r hr).2.2.1, (Qjo h r hr).2.2.2⟩
  have hl := h.l6
  have first : loop (Qja l) (1012, 0, 0) = some (YU (l.map (Xd n)), ZP (l.map (Xd n))) :=
    Zd (fun k => (((l.map (Xd n)).take k).foldl loF 1012, ((l.map (Xd n)).take k).foldl hiF 0, (k : Int))) l.length (fun k hk => by
      have hd := hat (Xd n l[k]) (List.mem_map.2 ⟨_, List.getElem_mem hk, rfl⟩)
      have e : (Xd n l[k]).at_ = l[k].At := rfl
      rw [e] at hd
      unfold Qja
      simp only [XB hk, cond_true, Xt hk, Qu]
      rw [Qhz _ _ _ _ (by simpa using hk), Qhz _ _ _ _ (by simpa using hk), Ym (x := l[k].At + 12) (by omega), XC k (by omega)]
      simp only [List.getElem_map]
      rfl) (by
      unfold Qja
      simp only [XK, cond_false, YU, ZP]
      rw [List.take_of_length_le (by simp)])
  have b1 := Qve hat
  have b2 := Qun hat
  have key := Qii (step := Qfp n l (ZP (l.map (Xd n)))) (fun k => YU (l.map (Xd n)) + (k : Int)) (ZP (l.map (Xd n)) - YU (l.map (Xd n)) + 1).toNat (fun (j : Nat) => Z9 n (l.map (Xd n)) (YU (l.map (Xd n)) + j)) (fun p => (p, true)) () (fun k hk => by
    rw [QMk h (by omega) (by omega) (by omega)]
    cases Z9 n (l.map (Xd n)) (YU (l.map (Xd n)) + (k : Int)) with
    | some p => rfl
    | none => simp only; congr 2; omega) (by
    unfold Qfp
    rw [decide_eq_false (by omega)]; rfl)
  unfold Qfq
  rw [first, Qu]
  simp only [Int.natCast_zero, Int.add_zero] at key ⊢
  rw [key, Qu]
  unfold ovR
  cases (List.range (ZP (l.map (Xd n)) - YU (l.map (Xd n)) + 1).toNat).findSome? (fun (j : Nat) => Z9 n (l.map (Xd n)) (YU (l.map (Xd n)) + j)) <;> rfl
end
end Go.Gw

end
section
set_option maxRecDepth 4096
namespace Go.Gw
open Go
/-! ### Lists, compared -/
def Yf : List Int → List Int → Int
  | [], [] => 0
  | [], _ :: _ => -1
  | _ :: _, [] => 1
  | x :: xs, y :: ys => if x < y then -1 else if y < x then 1 else Yf xs ys
theorem Qvb : ∀ {a b}, Yf a b = 0 → a = b
  | [], [], _ => rfl
  | [], _ :: _, h => by simp [Yf] at h
  | _ :: _, [], h => by simp [Yf] at h
  | x :: xs, y :: ys, h => by
    unfold Yf at h
    by_cases h1 : x < y
    · simp [h1] at h
    · by_cases h2 : y < x
      · simp [h1, h2] at h
      · simp only [h1, h2, if_false] at h
        rw [show x = y by omega, Qvb h]
theorem Qva : ∀ a b, Yf a b = -Yf b a
  | [], [] => rfl
  | [], _ :: _ => rfl
  | _ :: _, [] => rfl
  | x :: xs, y :: ys => by
    unfold Yf
    by_cases h1 : x < y
    · have h2 : ¬ y < x := by omega
      simp [h1, h2]
    · by_cases h2 : y < x
      · simp [h1, h2]
      · simp only [h1, h2, if_false]; exact Qva xs ys
theorem Qvc : ∀ {a b c}, Yf a b ≤ 0 → Yf b c ≤ 0 → Yf a c ≤ 0
  | [], _, [], _, _ => by simp [Yf]
  | [], _, _ :: _, _, _ => by simp [Yf]
  | _ :: _, [], _, h, _ => by simp [Yf] at h
  | _ :: _, _ :: _, [], _, h => by simp [Yf] at h
  | x :: xs, y :: ys, z :: zs, h1, h2 => by
    unfold Yf at h1 h2 ⊢
    by_cases a1 : x < y
    · by_cases b1 : y < z
      · rw [if_pos (by omega)]; omega
      · by_cases b2 : z < y
        · simp [b1, b2] at h2
        · rw [if_pos (by omega)]; omega
    · by_cases a2 : y < x
      · simp [a1, a2] at h1
      · obtain rfl : x = y := by omega
        simp only [a1, if_false] at h1
        by_cases b1 : x < z
        · rw [if_pos b1]; omega
        · by_cases b2 : z < x
          · simp [b1, b2] at h2
          · simp only [b1, b2, if_false] at h2 ⊢
            exact Qvc h1 h2
theorem QBw (a b : Int) : Qck [a, b] = some (if a = 0 then b else a) := by
  unfold Qck
  rw [ZR [a, b] (fun x => !decide (x = 0)) (fun _ x => x)]
  · by_cases h1 : a = 0
    · by_cases h2 : b = 0 <;> simp [XW, h1, h2, jn0]
    · simp [XW, h1, jn0]
  · intro k hk
    unfold Qhk
    rw [XB hk, cond_true, Xt hk, Qu, XC k (by simp at hk; omega)]
  · unfold Qhk
    rw [XK]; rfl
theorem QOg (a b : List Int) (ha : a.length < 1000000) : Qdn a b = some (Yf a b) := by
  have key : ∀ j k, k + j = a.length → k ≤ b.length → (Option.bind (loop (Qbq a b) (k : Int)) fun o => jn0 o fun (_ : Unit) => (bif decide ((a.length : Int) < (b.length : Int)) then some (-1) else some 0)) = some (Yf (a.drop k) (b.drop k)) := by
    intro j
    induction j with
    | zero =>
      intro k hk hb
      obtain rfl : k = a.length := by omega
      have e : Qbq a b (a.length : Int) = some (.inr (.inr ())) := by
        unfold Qbq; rw [XK]; rfl
      rw [ZQ e, Qu, List.drop_length]
      show (bif decide ((a.length : Int) < (b.length : Int)) then some (-1) else some 0) = _
      by_cases h : a.length < b.length
      · rw [decide_eq_true (by omega), List.drop_eq_getElem_cons h]; rfl
      · rw [decide_eq_false (by omega), List.drop_eq_nil_of_le (by omega)]; rfl
    | succ j ih =>
      intro k hk hb
      have hlt : k < a.length := by omega
      have e : Qbq a b (k : Int) = (bif decide ((b.length : Int) ≤ (k : Int)) then some (.inr (.inl 1)) else Option.bind (idx b (k : Int)) fun el => (bif !decide ((if a[k] < el then (-1 : Int) else if el < a[k] then 1 else 0) = 0) then some (.inr (.inl (if a[k] < el then (-1 : Int) else if el < a[k] then 1 else 0))) else some (.inl ((k + 1 : Nat) : Int)))) := by
        unfold Qbq
        rw [XB hlt, cond_true, Xt hlt, Qu, XC k (by omega)]
        simp only [Qhl, Qu]
      rw [List.drop_eq_getElem_cons hlt]
      by_cases hkb : k < b.length
      · rw [decide_eq_false (by omega), cond_false, Xt hkb, Qu] at e
        rw [List.drop_eq_getElem_cons hkb]
        by_cases h1 : a[k] < b[k]
        · simp only [h1, if_true] at e
          rw [ZQ e]
          simp [Yf, h1, jn0]
        · by_cases h2 : b[k] < a[k]
          · simp only [h1, h2, if_true, if_false] at e
            rw [ZQ e]
            simp [Yf, h1, h2, jn0]
          · simp only [h1, h2, if_false, decide_true, Bool.not_true, cond_false] at e
            rw [Qbk e, ih (k + 1) (by omega) (by omega)]
            simp [Yf, h1, h2]
      · rw [decide_eq_true (by omega), cond_true] at e
        rw [ZQ e, List.drop_eq_nil_of_le (show b.length ≤ k by omega)]
        rfl
  unfold Qdn
  have := key a.length 0 (by omega) (by omega)
  simpa using this
/-! ### Plans, compared -/
def pc (p o : feed_plan) : Int := if p.delay < o.delay then -1 else if o.delay < p.delay then 1 else Yf p.at_ o.at_
theorem QLs (p q : feed_plan) : pc p q = -pc q p := by
  unfold pc
  by_cases h1 : p.delay < q.delay
  · have h2 : ¬ q.delay < p.delay := by omega
    simp [h1, h2]
  · by_cases h2 : q.delay < p.delay
    · simp [h1, h2]
    · simp only [h1, h2, if_false]; exact Qva _ _
theorem QLu {p q r : feed_plan} (h1 : pc p q ≤ 0) (h2 : pc q r ≤ 0) : pc p r ≤ 0 := by
  unfold pc at *
  by_cases a1 : p.delay < q.delay
  · by_cases b1 : q.delay < r.delay
    · rw [if_pos (by omega)]; omega
    · by_cases b2 : r.delay < q.delay
      · simp [b1, b2] at h2
      · rw [if_pos (by omega)]; omega
  · by_cases a2 : q.delay < p.delay
    · simp [a1, a2] at h1
    · simp only [a1, a2, if_false] at h1
      by_cases b1 : q.delay < r.delay
      · rw [if_pos (by omega)]; omega
      · by_cases b2 : r.delay < q.delay
        · simp [b1, b2] at h2
        · simp only [b1, b2, if_false] at h2
          rw [if_neg (by omega), if_neg (by omega)]
          exact Qvc h1 h2
theorem QLt {p q : feed_plan} (hp : p.found = true) (hq : q.found = true) (h : pc p q = 0) : p = q := by
  unfold pc at h
  by_cases h1 : p.delay < q.delay
  · simp [h1] at h
  · by_cases h2 : q.delay < p.delay
    · simp [h1, h2] at h
    · simp only [h1, h2, if_false] at h
      have h3 := Qvb h
      have h4 : p.delay = q.delay := by omega
      cases p; cases q
      simp only at hp hq h3 h4
      subst hp hq h3 h4
      rfl
def Bst (l : List feed_plan) (B : feed_plan) : Prop := ((∀ p ∈ l, p.found = false) ∧ B.found = false) ∨ (B ∈ l ∧ B.found = true ∧ ∀ q ∈ l, q.found = true → pc B q ≤ 0)
theorem Bst.found_eq {l : List feed_plan} {B B' : feed_plan} (h : Bst l B) (h' : Bst l B') : B.found = B'.found := by
  rcases h with ⟨h1, h2⟩ | ⟨h1, h2, h3⟩
  · rcases h' with ⟨k1, k2⟩ | ⟨k1, k2, k3⟩
    · rw [h2, k2]
    · have := h1 _ k1; rw [k2] at this; cases this
  · rcases h' with ⟨k1, k2⟩ | ⟨k1, k2, k3⟩
    · have := k1 _ h1; rw [h2] at this; cases this
    · rw [h2, k2]
theorem Bst.eq {l : List feed_plan} {B B' : feed_plan} (h : Bst l B) (h' : Bst l B') (hf : B.found = true) : B = B' := by
  have hf' := (h.found_eq h').symm.trans hf
  rcases h with ⟨h1, h2⟩ | ⟨h1, h2, h3⟩
  · rw [h2] at hf; cases hf
  · rcases h' with ⟨k1, k2⟩ | ⟨k1, k2, k3⟩
    · rw [k2] at hf'; cases hf'
    · refine QLt hf hf' ?_
      have a := h3 _ k1 hf'
      have b := k3 _ h1 hf
      rw [QLs] at b
      omega
theorem Bst.perm {l l' : List feed_plan} (hp : l'.Perm l) {B : feed_plan} (h : Bst l B) : Bst l' B := by
  rcases h with ⟨h1, h2⟩ | ⟨h1, h2, h3⟩
  · exact .inl ⟨fun p hm => h1 p (hp.subset hm), h2⟩
  · exact .inr ⟨hp.symm.subset h1, h2, fun q hq => h3 q (hp.subset hq)⟩
theorem Bst.flat {α : Type} {ks : List α} {f : α → List feed_plan} {g : α → feed_plan} (hg : ∀ k ∈ ks, Bst (f k) (g k)) {B : feed_plan} (h : Bst (ks.map g) B) : Bst (ks.flatMap f) B := by
  rcases h with ⟨h1, h2⟩ | ⟨h1, h2, h3⟩
  · refine .inl ⟨fun p hp => ?_, h2⟩
    obtain ⟨k, hk, hp⟩ := List.mem_flatMap.1 hp
    rcases hg k hk with ⟨a, _⟩ | ⟨_, a, _⟩
    · exact a p hp
    · rw [h1 _ (List.mem_map.2 ⟨k, hk, rfl⟩)] at a; cases a
  · obtain ⟨k, hk, rfl⟩ := List.mem_map.1 h1
    rcases hg k hk with ⟨_, a⟩ | ⟨a1, a2, a3⟩
    · rw [a] at h2; cases h2
    · refine .inr ⟨List.mem_flatMap.2 ⟨k, hk, a1⟩, h2, fun q hq hf => ?_⟩
      obtain ⟨j, hj, hq⟩ := List.mem_flatMap.1 hq
      rcases hg j hj with ⟨b, _⟩ | ⟨b1, b2, b3⟩
      · rw [b q hq] at hf; cases hf
      · exact QLu (h3 _ (List.mem_map.2 ⟨j, hj, rfl⟩) b2) (b3 q hq hf)
end Go.Gw

end
