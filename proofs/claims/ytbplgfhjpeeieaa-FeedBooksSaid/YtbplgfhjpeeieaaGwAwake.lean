/- Laws of the walk. Condition: each theorem says its own. -/
import Derived.Test.YtbplgfhjpeeieaaGwTwin
import Derived.Test.YtbplgfhjpeeieaaGwPlan
import Derived.IntWalk
set_option linter.unusedVariables false
set_option linter.unusedSimpArgs false
set_option linter.unusedSectionVars false
section
set_option maxRecDepth 1000000
namespace Go.Gw
open Go
theorem QCc : Qvw 60 = some true := by decide +kernel
theorem QCb : Qiq = some true := QJf _ QCc
end Go.Gw

end
section
set_option linter.unusedSectionVars false
namespace Go.Gw
open Go

theorem Xy {x : Int} (h : -9223372036854775808 ≤ x ∧ x ≤ 9223372036854775807) : w64 x = x := Go.IntWalk.i64_in x h

def Runs {α : Type} (e : Option α) (Q : α → Prop) : Prop := ∃ a, e = some a ∧ Q a

section
variable {α β σ μ : Type} {Q : α → Prop} {e e' : Option α}
theorem Runs.some {a : α} (h : Q a) : Runs (some a) Q := ⟨a, rfl, h⟩
theorem Runs.bind {e : Option β} {f : β → Option α} (h : Runs e fun b => Runs (f b) Q) : Runs (e.bind f) Q := by
  obtain ⟨b, rfl, a, ha, hq⟩ := h; exact ⟨a, ha, hq⟩
theorem Runs.mono {Q' : α → Prop} (h : Runs e Q) (hm : ∀ a, Q a → Q' a) : Runs e Q' := by obtain ⟨a, ha, hq⟩ := h; exact ⟨a, ha, hm _ hq⟩
theorem Runs.eq {a : α} (h : Runs e (· = a)) : e = .some a := by obtain ⟨b, hb, rfl⟩ := h; exact hb
theorem Runs.call {e : Option β} {f : β → Option α} {b : β} (h : e = .some b) (hq : Runs (f b) Q) : Runs (e.bind f) Q := by subst h; exact hq
theorem Runs.bif {b : Bool} (ht : b = true → Runs e Q) (hf : b = false → Runs e' Q) : Runs (bif b then e else e') Q := by
  cases b
  · exact hf rfl
  · exact ht rfl
theorem Runs.jl {b : α} {f : μ → Option α} (h : Q b) : Runs (jn0 (.inl b) f) Q := ⟨b, rfl, h⟩
theorem Runs.j {o : α ⊕ μ} {f : μ → Option α} (hl : ∀ b, o = .inl b → Q b) (hr : ∀ m, o = .inr m → Runs (f m) Q) : Runs (jn0 o f) Q := by
  cases o with
  | inl b => exact Runs.jl (hl b rfl)
  | inr m => exact hr m rfl

def Rnd (I : σ → Prop) (m : σ → Nat) (Q : β → Prop) (s : σ) : σ ⊕ β → Prop
  | .inl s' => I s' ∧ m s' < m s
  | .inr o => Q o
theorem Runs.loop {step : σ → Option (σ ⊕ β)} {s : σ} {Q : β → Prop} (I : σ → Prop) (m : σ → Nat) (h0 : I s) (h : ∀ s, I s → Runs (step s) (Rnd I m Q s)) : Runs (Gw.loop step s) Q := by
  generalize hk : m s = k
  induction k using Nat.strongRecOn generalizing s with
  | _ k ih =>
    obtain ⟨x, hx, hq⟩ := h s h0
    cases x with
    | inl s' =>
      rw [Qoi hx]
      exact ih (m s') (by have := hq.2; omega) hq.1 rfl
    | inr o => rw [Qis hx]; exact ⟨o, rfl, hq⟩
theorem Z8 {step : σ → Option (σ ⊕ β)} {o : β} (S : Nat → σ) (n : Nat) (h : ∀ k, k < n → step (S k) = .some (.inl (S (k + 1)))) (he : step (S n) = .some (.inr o)) : Gw.loop step (S 0) = .some o := by
  have key : ∀ j k, j + k = n → Gw.loop step (S k) = .some o := by
    intro j
    induction j with
    | zero => intro k hk; obtain rfl : k = n := by omega
              exact Qis he
    | succ j ih => intro k hk; rw [Qoi (h k (by omega))]; exact ih (k + 1) (by omega)
  exact key n 0 (by omega)

theorem Runs.idx {xs : List β} {i : Int} {f : β → Option α} (h0 : 0 ≤ i) (h1 : i < xs.length) (h : ∀ x, xs[i.toNat]? = .some x → Runs (f x) Q) : Runs ((Gw.idx xs i).bind f) Q := by
  have hl : i.toNat < xs.length := by omega
  have e : Gw.idx xs i = .some xs[i.toNat] := by unfold Gw.idx; rw [if_pos h0, List.getElem?_eq_getElem hl]
  exact Runs.call e (h _ (List.getElem?_eq_getElem hl))
theorem X0 {xs : List β} {k : Nat} (h : k < xs.length) : Gw.idx xs (k : Int) = .some xs[k] := by
  unfold Gw.idx; rw [if_pos (by omega), Int.toNat_natCast, List.getElem?_eq_getElem h]
theorem X0? {xs : List β} {k : Nat} : Gw.idx xs (k : Int) = xs[k]? := by
  unfold Gw.idx; rw [if_pos (by omega), Int.toNat_natCast]
theorem J9 {xs ys : List β} (h : xs.length + ys.length ≤ 1073741824) : app xs ys = .some (xs ++ ys) := by unfold app; rw [if_pos h]
end
end Go.Gw

end
section
set_option linter.unusedSectionVars false
namespace Go.Gw
section
variable {α β γ σ ρ : Type}
def X5 (p : α → Bool) (res : Nat → α → ρ) : Nat → List α → ρ ⊕ Unit
  | _, [] => .inr ()
  | k, x :: xs => if p x then .inl (res k x) else X5 p res (k + 1) xs
theorem ZS {step : Int → Option (Int ⊕ (ρ ⊕ Unit))} (xs : List α) (p : α → Bool) (res : Nat → α → ρ)
    (hs : ∀ k (hk : k < xs.length), step (k : Int) = (bif p xs[k] then some (.inr (.inl (res k xs[k]))) else some (.inl ((k + 1 : Nat) : Int))))
    (he : step (xs.length : Int) = some (.inr (.inr ()))) : loop step 0 = some (X5 p res 0 xs) := by
  have key : ∀ j k, j + k = xs.length → loop step (k : Int) = some (X5 p res k (xs.drop k)) := by
    intro j
    induction j with
    | zero =>
      intro k hk
      obtain rfl : k = xs.length := by omega
      rw [List.drop_length]
      exact Qis he
    | succ j ih =>
      intro k hk
      have hlt : k < xs.length := by omega
      rw [List.drop_eq_getElem_cons hlt]
      have := hs k hlt
      cases hp : p xs[k] with
      | true => rw [hp] at this; simp only [X5, hp, if_true]; exact Qis this
      | false => rw [hp] at this; simp only [X5, hp]; rw [Qoi this]; exact ih (k + 1) (by omega)
  have := key xs.length 0 (by omega)
  simpa using this

def fld (f : Nat → γ → α → γ) : Nat → γ → List α → γ
  | _, a, [] => a
  | k, a, x :: xs => fld f (k + 1) (f k a x) xs
def rng (f : Nat → γ → γ) (a : γ) : Nat → γ
  | 0 => a
  | n + 1 => f n (rng f a n)
theorem X6 (k : Nat) (h : k < 4611686018427387904) : w64 ((k : Int) + 1) = ((k + 1 : Nat) : Int) := by rw [Xy (by omega)]; omega
theorem X7 {k n : Nat} (h : k < n) : decide ((k : Int) < (n : Int)) = true := by simp; omega
theorem X8 (n : Nat) : decide ((n : Int) < (n : Int)) = false := by simp
end
end Go.Gw

end
section
set_option maxRecDepth 4096
namespace Go.Gw
open Go

def Zg : List Int → Int
  | [] => 0
  | x :: xs => if x = 0 then Zg xs else x
theorem Qae (l : List Int) (hl : l.length < 1073741824) : ZH l = some (Zg l) := by
  unfold ZH
  rw [ZS l (fun x => !decide (x = 0)) (fun _ x => x)]
  · have key : ∀ (l : List Int) k, (jn0 (X5 (fun x => !decide (x = 0)) (fun _ x => x) k l) fun (_ : Unit) => some 0) = some (Zg l) := by
      intro l
      induction l with
      | nil => intro k; rfl
      | cons x xs ih =>
        intro k
        by_cases h : x = 0
        · simp [X5, Zg, h]; exact ih _
        · simp [X5, Zg, h, jn0]
    simpa using key l 0
  · intro k hk
    unfold Qhz
    rw [X7 hk, X0 hk, X6 k (by omega)]; rfl
  · unfold Qhz
    rw [X8]; rfl
theorem J8 (b : Bool) (e : Int) : Yk b e = some (bif b then 0 else e) := by cases b <;> rfl
theorem Qan (n lo hi : Int) : Z6 n lo hi = some (decide (lo ≤ n) && decide (n ≤ hi)) := rfl
theorem Qas (n lo hi : Int) : ZP n lo hi = some (decide (lo ≤ n) && decide (n ≤ hi)) := rfl
theorem QQm (n m : Int) (h : 0 ≤ m) (h2 : m ≤ 9223372036854775807) : Qdf n m = some (decide (-m ≤ n) && decide (n ≤ m)) := by
  unfold Qdf
  rw [Xy (by omega), Qan, Int.zero_sub]; rfl
theorem Qkk {α : Type} (p : α → Bool) : ∀ (l : List α) (k : Nat), (jn0 (β := Int) (X5 p (fun k _ => (k : Int)) k l) fun (_ : Unit) => some (-1)) = some (match X5 p (fun k _ => (k : Int)) k l with | .inl i => i | .inr _ => -1)
  | l, k => by cases X5 p (fun k _ => (k : Int)) k l <;> rfl
theorem Qpw {α : Type} (p : α → Bool) : ∀ (l : List α) (k : Nat), decide (0 ≤ (match X5 p (fun k _ => (k : Int)) k l with | .inl i => i | .inr _ => (-1 : Int))) = l.any p
  | [], k => by simp [X5]
  | x :: xs, k => by
    by_cases h : p x = true
    · simp [X5, h]
    · simp only [X5, h, List.any_cons]
      have := Qpw p xs (k + 1)
      simpa [h] using this
theorem J3 {α ρ : Type} {p : α → Bool} {res : Nat → α → ρ} : ∀ (l : List α) (k : Nat), (X5 p res k l = .inr () ∧ l.any p = false) ∨ ∃ j x, X5 p res k l = .inl (res j x) ∧ p x = true ∧ l.any p = true
  | [], k => .inl ⟨rfl, rfl⟩
  | x :: xs, k => by
    by_cases h : p x = true
    · exact .inr ⟨k, x, by simp [X5, h], h, by simp [h]⟩
    · rcases J3 xs (k + 1) (p := p) (res := res) with ⟨h1, h2⟩ | ⟨j, y, h1, h2, h3⟩
      · exact .inl ⟨by simp [X5, h, h1], by simp [h, h2]⟩
      · exact .inr ⟨j, y, by simp [X5, h, h1], h2, by simp [h3]⟩
/-! ### Ladders -/
end Go.Gw

end
section
set_option maxRecDepth 4096
namespace Go.Gw
open Go
def Ya (f : Nat → Int) (n : Nat) : Option Nat := (List.range n).find? fun i => decide (f i ≠ 0)
theorem Qav (f : Nat → Int) (n : Nat) : (Ya f n = none ∧ ∀ j, j < n → f j = 0) ∨ ∃ i, Ya f n = some i ∧ i < n ∧ f i ≠ 0 ∧ ∀ j, j < i → f j = 0 := by
  cases h : Ya f n with
  | none =>
    refine .inl ⟨rfl, fun j hj => ?_⟩
    have := List.find?_eq_none.1 h j (List.mem_range.2 hj)
    simpa using this
  | some i =>
    right
    obtain ⟨h1, h2, h3⟩ := List.find?_range_eq_some.1 h
    exact ⟨i, rfl, List.mem_range.1 h2, by simpa using h1, fun j hj => by have := h3 j hj; simpa using this⟩
theorem Qaf {σ ρ μ : Type} {step : σ → Option (σ ⊕ (ρ ⊕ μ))} (S : Nat → σ) (n : Nat) (f : Nat → Int) (res : Nat → Int → ρ) (o : μ)
    (hs : ∀ k, k < n → (∀ j, j < k → f j = 0) → step (S k) = if f k = 0 then some (.inl (S (k + 1))) else some (.inr (.inl (res k (f k))))) (he : (∀ j, j < n → f j = 0) → step (S n) = some (.inr (.inr o))) :
    loop step (S 0) = some (match Ya f n with | some i => .inl (res i (f i)) | none => .inr o) := by
  rcases Qav f n with ⟨h1, h2⟩ | ⟨i, h1, h2, h3, h4⟩
  · rw [h1]
    exact Z8 S n (fun k hk => by rw [hs k hk fun j hj => h2 j (by omega), if_pos (h2 k hk)]) (he h2)
  · rw [h1]
    exact Z8 S i (fun k hk => by rw [hs k (by omega) fun j hj => h4 j (by omega), if_pos (h4 k hk)]) (by rw [hs i h2 h4, if_neg h3])
/-! ### Names -/
def Qeg (q : Int × Nat) : Bool := (!(((decide (97 ≤ q.1)) && (decide (q.1 ≤ 122))) || ((decide (65 ≤ q.1)) && (decide (q.1 ≤ 90))))) && ((decide ((q.2 : Int) = 0)) || ((!decide (q.1 = 45)) && ((decide (q.1 < 48)) || (decide (57 < q.1)))))
def bi (s : ByteArray) : List Int := bl s
theorem Qhf (s : ByteArray) : (bi s).length = s.size := Qbc s
theorem Qvp {s : ByteArray} {k : Nat} (h : k < (bi s).length) : idx (α := Int) (bl s) (k : Int) = some (bi s)[k] := X0 (xs := bi s) h
def Qbi (s : ByteArray) : Bool := decide (1 ≤ s.size) && (decide (s.size ≤ 12) && !((bi s).zipIdx.any Qeg))
theorem Qyt (s : ByteArray) : s = ByteArray.mk #[] ↔ s.size = 0 := by
  constructor
  · intro h; subst h; rfl
  · intro h
    cases s with
    | mk d =>
      congr 1
      exact Array.eq_empty_of_size_eq_zero h
theorem Qqx (s : ByteArray) : Qeh s = some (Qbi s) := by
  unfold Qeh Qbi
  have hlen : (bi s).zipIdx.length = s.size := by rw [List.length_zipIdx, Qhf]
  by_cases h : 1 ≤ s.size ∧ s.size ≤ 12
  · have : (decide ((s.size : Int) < 1) || decide (12 < (s.size : Int))) = false := by
      rw [decide_eq_false (by omega), decide_eq_false (by omega)]; rfl
    rw [this, cond_false, ZS (bi s).zipIdx Qeg (fun _ _ => false), QF]
    · rcases J3 (p := Qeg) (res := fun _ _ => false) (bi s).zipIdx 0 with ⟨k1, k2⟩ | ⟨j, x, k1, k2, k3⟩
      · rw [k1, k2]; simp [h, jn0]
      · rw [k1, k3]; simp [jn0]
    · intro k hk
      rw [hlen] at hk
      unfold Qlt
      rw [X7 hk, cond_true, Qvp (show k < (bi s).length by rw [Qhf]; exact hk), QF, X6 k (by omega)]
      simp only [List.getElem_zipIdx, Nat.zero_add]
      rfl
    · rw [hlen]
      unfold Qlt
      rw [X8]; rfl
  · have : (decide ((s.size : Int) < 1) || decide (12 < (s.size : Int))) = true := by
      by_cases h1 : s.size < 1
      · rw [decide_eq_true (by omega)]; rfl
      · rw [decide_eq_true (p := 12 < (s.size : Int)) (by omega)]; simp
    rw [this, cond_true]
    congr 1
    by_cases h1 : 1 ≤ s.size
    · rw [decide_eq_false (p := s.size ≤ 12) (by omega)]; simp
    · rw [decide_eq_false h1]; rfl
theorem QEd (s : ByteArray) (hs : s.size ≤ 1000) : Qey s = some (Qbi s) := by
  unfold Qey Qbi
  have hlen : (bi s).zipIdx.length = s.size := by rw [List.length_zipIdx, Qhf]
  have ht : tob s = some (bl s) := by unfold tob; rw [if_pos (by omega)]
  rw [ht, QF, ZS (bi s).zipIdx Qeg (fun _ _ => false), QF]
  · rcases J3 (p := Qeg) (res := fun _ _ => false) (bi s).zipIdx 0 with ⟨k1, k2⟩ | ⟨j, x, k1, k2, k3⟩
    · rw [k1, k2]
      simp only [jn0, Bool.not_false, Bool.and_true, Option.some.injEq]
      by_cases h0 : s.size = 0
      · rw [decide_eq_true ((Qyt s).2 h0), decide_eq_false (show ¬ 1 ≤ s.size by omega)]; rfl
      · rw [decide_eq_false (fun e => h0 ((Qyt s).1 e)), decide_eq_true (show 1 ≤ s.size by omega)]
        simp only [Bool.not_false, Bool.true_and]
        by_cases h1 : s.size ≤ 12
        · rw [decide_eq_true h1, decide_eq_true (by omega)]
        · rw [decide_eq_false h1, decide_eq_false (by omega)]
    · rw [k1, k3]; simp [jn0]
  · intro k hk
    rw [hlen] at hk
    have hk2 : k < (bl s).length := by rw [Qbc]; exact hk
    unfold Qib
    rw [X7 hk2, cond_true, Qvp (show k < (bi s).length by rw [Qhf]; exact hk), QF, X6 k (by omega)]
    simp only [List.getElem_zipIdx, Nat.zero_add]
    rfl
  · rw [hlen, show (s.size : Int) = ((bl s).length : Int) by rw [Qbc]]
    unfold Qib
    rw [X8]; rfl
theorem QDf (l : List ByteArray) (v : ByteArray) (hl : l.length < 1000000) : Qgi l v = some (l.any fun x => decide (v = x)) := by
  unfold Qgi Qkj
  rw [ZS l (fun x => decide (v = x)) (fun k _ => (k : Int)), QF, Qkk, QF, Qpw]
  · intro k hk
    unfold Qki
    rw [X7 hk, X0 hk, X6 k (by omega)]; rfl
  · unfold Qki
    rw [X8]; rfl
def Js (s : ByteArray) (others : List ByteArray) : Int := if Qbi s = false then 4 else if (others.any fun x => decide (s = x)) = true then 5 else 0
theorem Qwe (s : ByteArray) (others : List ByteArray) (hs : s.size ≤ 1000) (hl : others.length < 1000000) : Qdb s others = some (Js s others) := by
  unfold Qdb Js
  rw [QEd s hs, QF, J8, QF, QDf _ _ hl, QF, J8, QF, Qae _ (by simp), QF]
  cases Qbi s <;> cases (others.any fun x => decide (s = x)) <;> simp [Zg]
end Go.Gw

end
section
set_option maxRecDepth 4096
namespace Go.Gw
open Go
theorem Qhg {α : Type} {c : Bool} {a b : α} : (bif c then some a else some b) = some (bif c then a else b) := by cases c <;> rfl
def Qyr (l r il ir eq sh lo s0 s1 : Bool) : Int := bif (!(l || il)) || !(r || ir) then 6 else bif l && r then 23 else bif eq then 26 else bif !(sh && lo) then 2 else bif (l && !s0) || (r && !s1) then 3 else 0
def Jy (s : FeedSection) (n : Nat) : Int := Qyr (decide (s.Left = -1)) (decide (s.Right = -1)) (decide (0 ≤ s.Left) && decide (s.Left ≤ (n : Int) - 1)) (decide (0 ≤ s.Right) && decide (s.Right ≤ (n : Int) - 1)) (decide (s.Left = s.Right))
  (decide (0 ≤ s.Share) && decide (s.Share ≤ 1000)) (decide (0 ≤ s.Loss) && decide (s.Loss ≤ 500)) (decide (s.Share = 0)) (decide (s.Share = 1000))
theorem QEf (s : FeedSection) (n : Nat) (hn : n < 1000) : Qfg s (n : Int) = some (Jy s n) := by
  unfold Qfg Qff Jy
  rw [Xy (by omega)]
  simp only [J8, Qan, QF, Qhg]
  rw [Qae _ (by simp), QF]
  congr 1
  generalize decide (s.Left = -1) = l
  generalize decide (s.Right = -1) = r
  generalize (decide (0 ≤ s.Left) && decide (s.Left ≤ (n : Int) - 1)) = il
  generalize (decide (0 ≤ s.Right) && decide (s.Right ≤ (n : Int) - 1)) = ir
  generalize decide (s.Left = s.Right) = eq
  generalize (decide (0 ≤ s.Share) && decide (s.Share ≤ 1000)) = sh
  generalize (decide (0 ≤ s.Loss) && decide (s.Loss ≤ 500)) = lo
  generalize decide (s.Share = 0) = s0
  generalize decide (s.Share = 1000) = s1
  revert l r il ir eq sh lo s0 s1
  decide +kernel
theorem QNh (m : FeedNet) (s : FeedSection) (hn : m.Stations.length < 1000) : Qju m s = some (Jy s m.Stations.length) := by
  unfold Qju Qjr Jy
  rw [Xy (by omega)]
  simp only [Qas, QF, Qhg]
  congr 1
  generalize decide (s.Left = -1) = l
  generalize decide (s.Right = -1) = r
  generalize (decide (0 ≤ s.Left) && decide (s.Left ≤ (m.Stations.length : Int) - 1)) = il
  generalize (decide (0 ≤ s.Right) && decide (s.Right ≤ (m.Stations.length : Int) - 1)) = ir
  generalize decide (s.Left = s.Right) = eq
  generalize (decide (0 ≤ s.Share) && decide (s.Share ≤ 1000)) = sh
  generalize (decide (0 ≤ s.Loss) && decide (s.Loss ≤ 500)) = lo
  generalize decide (s.Share = 0) = s0
  generalize decide (s.Share = 1000) = s1
  revert l r il ir eq sh lo s0 s1
  decide +kernel
def Jz (s : FeedStep) (n : Nat) : Int := bif !(decide (0 ≤ s.Section) && decide (s.Section ≤ (n : Int) - 1)) then 6 else bif !(decide (-20000 ≤ s.Power) && decide (s.Power ≤ 20000)) then 2 else 0
def Qkl (l : List FeedStep) (n : Nat) : Int := match Ya (fun i => (l[i]?.map (Jz · n)).getD 0) l.length with | some i => (l[i]?.map (Jz · n)).getD 0 | none => 0
def QBa (e1 e2 : Bool) (o : Bool) (z : Bool) (m : Bool) (st : Int) : Int := bif !(e1 && e2) then 2 else bif !o then 9 else bif !z then 10 else bif !m then 8 else st
def J7 (t : FeedTrain) (n : Nat) : Int := QBa (decide (0 ≤ t.Earliest) && decide (t.Earliest ≤ 1000)) (decide (0 ≤ t.Latest) && decide (t.Latest ≤ 1000)) (decide (t.Earliest ≤ t.Latest)) (decide (0 < (t.Steps.length : Int))) (decide ((t.Steps.length : Int) ≤ 12)) (Qkl t.Steps n)
theorem Qob (l : List FeedStep) (n k : Nat) (hk : k < l.length) : (l[k]?.map (Jz · n)).getD 0 = Jz l[k] n := by rw [List.getElem?_eq_getElem hk]; rfl
theorem QEj (t : FeedTrain) (n : Nat) (hn : n < 1000) (ht : t.Steps.length < 1000) : Qfj t (n : Int) = some (J7 t n) := by
  have key : loop (Qfi (n : Int) t) 0 = some (match Ya (fun i => (t.Steps[i]?.map (Jz · n)).getD 0) t.Steps.length with | some i => .inl ((t.Steps[i]?.map (Jz · n)).getD 0) | none => .inr ()) :=
    Qaf (fun k => (k : Int)) t.Steps.length _ (fun _ e => e) () (fun k hk _ => by
      rw [Qob _ _ _ hk]
      unfold Qfi Jz
      rw [X7 hk, cond_true, X0 hk, QF, X6 k (by omega), Xy (by omega)]
      simp only [J8, Qan, QF]
      rw [QQm _ _ (by omega) (by omega)]
      simp only [J8, QF]
      rw [Qae _ (by simp), QF]
      generalize (decide (0 ≤ t.Steps[k].Section) && decide (t.Steps[k].Section ≤ (n : Int) - 1)) = a
      generalize (decide (-20000 ≤ t.Steps[k].Power) && decide (t.Steps[k].Power ≤ 20000)) = b
      cases a <;> cases b <;> rfl) (fun _ => by
      unfold Qfi
      rw [X8]; rfl)
  unfold Qfj Qbw
  rw [key]
  unfold J7 Qkl
  simp only [J8, Qan, QF, Qhg]
  rw [Qae _ (by simp), QF]
  generalize (decide (0 ≤ t.Earliest) && decide (t.Earliest ≤ 1000)) = e1
  generalize (decide (0 ≤ t.Latest) && decide (t.Latest ≤ 1000)) = e2
  generalize decide (t.Earliest ≤ t.Latest) = o
  generalize decide (0 < (t.Steps.length : Int)) = z
  generalize decide ((t.Steps.length : Int) ≤ 12) = m
  cases Ya (fun i => (t.Steps[i]?.map (Jz · n)).getD 0) t.Steps.length with
  | none => cases e1 <;> cases e2 <;> cases o <;> cases z <;> cases m <;> rfl
  | some i => cases e1 <;> cases e2 <;> cases o <;> cases z <;> cases m <;> rfl
theorem QNl (m : FeedNet) (t : FeedTrain) (hn : m.Sections.length < 1000) (ht : t.Steps.length < 1000) : Qjy m t = some (J7 t m.Sections.length) := by
  have key : loop (Qjx m t) 0 = some (match Ya (fun i => (t.Steps[i]?.map (Jz · m.Sections.length)).getD 0) t.Steps.length with | some i => .inl ((t.Steps[i]?.map (Jz · m.Sections.length)).getD 0) | none => .inr ()) :=
    Qaf (fun k => (k : Int)) t.Steps.length _ (fun _ e => e) () (fun k hk _ => by
      rw [Qob _ _ _ hk]
      unfold Qjx Qpg Jz
      rw [X7 hk, cond_true, X0 hk, QF, X6 k (by omega), Xy (by omega)]
      simp only [Qas, QF]
      generalize (decide (0 ≤ t.Steps[k].Section) && decide (t.Steps[k].Section ≤ (m.Sections.length : Int) - 1)) = a
      generalize (decide (-20000 ≤ t.Steps[k].Power) && decide (t.Steps[k].Power ≤ 20000)) = b
      cases a <;> cases b <;> rfl) (fun _ => by
      unfold Qjx
      rw [X8]; rfl)
  unfold Qjy
  rw [key]
  unfold J7 Qkl
  simp only [Qas, QF, Qhg]
  rw [show decide (t.Latest < t.Earliest) = !decide (t.Earliest ≤ t.Latest) by rw [← decide_not]; congr 1; exact propext (by omega),
    show decide ((t.Steps.length : Int) = 0) = !decide (0 < (t.Steps.length : Int)) by rw [← decide_not]; congr 1; exact propext (by omega),
    show decide (12 < (t.Steps.length : Int)) = !decide ((t.Steps.length : Int) ≤ 12) by rw [← decide_not]; congr 1; exact propext (by omega)]
  generalize (decide (0 ≤ t.Earliest) && decide (t.Earliest ≤ 1000)) = e1
  generalize (decide (0 ≤ t.Latest) && decide (t.Latest ≤ 1000)) = e2
  generalize decide (t.Earliest ≤ t.Latest) = o
  generalize decide (0 < (t.Steps.length : Int)) = z
  generalize decide ((t.Steps.length : Int) ≤ 12) = q
  cases Ya (fun i => (t.Steps[i]?.map (Jz · m.Sections.length)).getD 0) t.Steps.length with
  | none => cases e1 <;> cases e2 <;> cases o <;> cases z <;> cases q <;> rfl
  | some i => cases e1 <;> cases e2 <;> cases o <;> cases z <;> cases q <;> rfl
end Go.Gw

end
section
set_option maxRecDepth 4096
namespace Go.Gw
open Go
def stE (s : FeedStation) (others : List ByteArray) : Int := if Js s.Name others ≠ 0 then Js s.Name others else bif !(decide (0 ≤ s.Limit) && decide (s.Limit ≤ 100000)) then 2 else 0
def ZY (n : FeedNet) (i : Nat) : Int := (n.Stations[i]?.map fun s => stE s ((n.Stations.take i).map (·.Name))).getD 0
def ZW (n : FeedNet) (i : Nat) : Int := (n.Sections[i]?.map fun s => Jy s n.Stations.length).getD 0
def trE (t : FeedTrain) (others : List ByteArray) (n : Nat) : Int := if Js t.Name others ≠ 0 then Js t.Name others else J7 t n
def ZD (n : FeedNet) (i : Nat) : Int := (n.Trains[i]?.map fun t => trE t ((n.Trains.take i).map (·.Name)) n.Sections.length).getD 0
def ZT (n : FeedNet) : FeedMark × Int :=
  if n.Stations.length = 0 ∨ n.Sections.length = 0 then (FeedMark.mk 0 0, 10) else if 6 < n.Stations.length ∨ 10 < n.Sections.length ∨ 6 < n.Trains.length then (FeedMark.mk 0 0, 8) else
  match Ya (ZY n) n.Stations.length with
  | some i => (FeedMark.mk 1 i, ZY n i)
  | none => match Ya (ZW n) n.Sections.length with
    | some i => (FeedMark.mk 2 i, ZW n i)
    | none => match Ya (ZD n) n.Trains.length with
      | some i => (FeedMark.mk 3 i, ZD n i)
      | none => (FeedMark.mk 0 0, 0)
structure NetS (n : FeedNet) : Prop where
  st : n.Stations.length < 1000
  se : n.Sections.length < 1000
  tr : n.Trains.length < 1000
  sn : ∀ s ∈ n.Stations, s.Name.size ≤ 1000
  tn : ∀ t ∈ n.Trains, t.Name.size ≤ 1000 ∧ t.Steps.length < 1000
theorem Jq {α : Type} (l : List α) (f : α → Int) (k : Nat) (hk : k < l.length) : (l[k]?.map f).getD 0 = f l[k] := by rw [List.getElem?_eq_getElem hk]; rfl
theorem Qko {α β : Type} (l : List α) (f : α → β) (k : Nat) (hk : k < l.length) : (l.take k).map f ++ [f l[k]] = (l.take (k + 1)).map f := by
  rw [List.take_add_one, List.getElem?_eq_getElem hk, List.map_append]; rfl
theorem Qny (a b : Int) : Zg [a, b] = if a ≠ 0 then a else b := by
  by_cases h : a = 0
  · by_cases h2 : b = 0 <;> simp [Zg, h, h2]
  · simp [Zg, h]
section
variable {n : FeedNet} (h : NetS n)
include h
theorem QEh : loop (Qeu n) (([] : List ByteArray), 0) = some (match Ya (ZY n) n.Stations.length with | some i => .inl (FeedMark.mk 1 i, ZY n i) | none => .inr ()) :=
  Qaf (fun k => ((n.Stations.take k).map (·.Name), (k : Int))) n.Stations.length (ZY n) (fun i e => (FeedMark.mk 1 i, e)) () (fun k hk _ => by
    have hst := h.st
    have hs : ZY n k = stE n.Stations[k] ((n.Stations.take k).map (·.Name)) := Jq _ _ _ hk
    rw [hs]
    unfold Qeu stE
    simp only [X7 hk, cond_true, X0 hk, QF]
    rw [Qwe _ _ (h.sn _ (List.getElem_mem hk)) (by simp; omega), QF]
    simp only [Qan, J8, QF]
    rw [Qae _ (by simp), QF, Qny]
    generalize (decide (0 ≤ n.Stations[k].Limit) && decide (n.Stations[k].Limit ≤ 100000)) = b
    by_cases h1 : Js n.Stations[k].Name ((n.Stations.take k).map (·.Name)) = 0
    · simp only [h1, ne_eq, not_true_eq_false, if_false]
      cases b
      · rfl
      · simp only [cond_true, decide_true, Bool.not_true, cond_false, if_true]
        rw [J9 (by simp; omega), QF, Qko n.Stations (·.Name) k hk, X6 k (by omega)]
    · simp only [ne_eq, h1, not_false_eq_true, if_true, decide_false, Bool.not_false, cond_true, if_false]) (fun _ => by
    unfold Qeu
    simp only [X8]; rfl)
theorem QEg : loop (Qev n) 0 = some (match Ya (ZW n) n.Sections.length with | some i => .inl (FeedMark.mk 2 i, ZW n i) | none => .inr ()) :=
  Qaf (fun k => (k : Int)) n.Sections.length (ZW n) (fun i e => (FeedMark.mk 2 i, e)) () (fun k hk _ => by
    have hse := h.se
    have hs : ZW n k = Jy n.Sections[k] n.Stations.length := Jq _ _ _ hk
    rw [hs]
    unfold Qev
    rw [X7 hk, cond_true, X0 hk, QF, QEf _ _ h.st, QF, X6 k (by omega)]
    by_cases h1 : Jy n.Sections[k] n.Stations.length = 0
    · simp [h1]
    · simp [h1]) (fun _ => by
    unfold Qev
    rw [X8]; rfl)
theorem QEl : loop (Qew n) (([] : List ByteArray), 0) = some (match Ya (ZD n) n.Trains.length with | some i => .inl (FeedMark.mk 3 i, ZD n i) | none => .inr ()) :=
  Qaf (fun k => ((n.Trains.take k).map (·.Name), (k : Int))) n.Trains.length (ZD n) (fun i e => (FeedMark.mk 3 i, e)) () (fun k hk _ => by
    have hst := h.tr
    have hs : ZD n k = trE n.Trains[k] ((n.Trains.take k).map (·.Name)) n.Sections.length := Jq _ _ _ hk
    rw [hs]
    unfold Qew trE
    simp only [X7 hk, cond_true, X0 hk, QF]
    rw [Qwe _ _ (h.tn _ (List.getElem_mem hk)).1 (by simp; omega), QF, QEj _ _ h.se (h.tn _ (List.getElem_mem hk)).2, QF]
    rw [Qae _ (by simp), QF, Qny]
    by_cases h1 : Js n.Trains[k].Name ((n.Trains.take k).map (·.Name)) = 0
    · simp only [h1, ne_eq, not_true_eq_false, if_false]
      by_cases h2 : J7 n.Trains[k] n.Sections.length = 0
      · simp only [h2, decide_true, Bool.not_true, cond_false, if_true]
        rw [J9 (by simp; omega), QF, Qko n.Trains (·.Name) k hk, X6 k (by omega)]
      · simp [h2]
    · simp only [ne_eq, h1, not_false_eq_true, if_true, decide_false, Bool.not_false, cond_true, if_false]) (fun _ => by
    unfold Qew
    simp only [X8]; rfl)
theorem QEb : Qex n = some (ZT n) := by
  unfold Qex ZT
  rw [QEh h, QEg h, QEl h]
  simp only [J8, QF]
  rw [Qae _ (by simp), QF, Qny]
  by_cases h1 : n.Stations.length = 0 ∨ n.Sections.length = 0
  · rw [if_pos h1]
    have : (decide (0 < (n.Stations.length : Int)) && decide (0 < (n.Sections.length : Int))) = false := by
      rw [Bool.eq_false_iff]; intro e; simp at e; omega
    rw [this]; rfl
  · rw [if_neg h1]
    have : (decide (0 < (n.Stations.length : Int)) && decide (0 < (n.Sections.length : Int))) = true := by
      simp; omega
    rw [this]
    by_cases h2 : 6 < n.Stations.length ∨ 10 < n.Sections.length ∨ 6 < n.Trains.length
    · rw [if_pos h2]
      have : ((decide ((n.Stations.length : Int) ≤ 6) && decide ((n.Sections.length : Int) ≤ 10)) && decide ((n.Trains.length : Int) ≤ 6)) = false := by
        rw [Bool.eq_false_iff]; intro e; simp at e; omega
      rw [this]; rfl
    · rw [if_neg h2]
      have : ((decide ((n.Stations.length : Int) ≤ 6) && decide ((n.Sections.length : Int) ≤ 10)) && decide ((n.Trains.length : Int) ≤ 6)) = true := by
        simp; omega
      rw [this]
      cases Ya (ZY n) n.Stations.length with
      | some i => rfl
      | none =>
        cases Ya (ZW n) n.Sections.length with
        | some i => rfl
        | none =>
          cases Ya (ZD n) n.Trains.length with
          | some i => rfl
          | none => rfl
end
end Go.Gw

end
section
set_option maxRecDepth 4096
namespace Go.Gw
open Go
theorem Qzz {α : Type} {p : α → Bool} : ∀ (l : List α) (k m : Nat) (hk : k < l.length), p l[k] = true → ∃ j : Nat, X5 p (fun k _ => (k : Int)) m l = .inl ((m + j : Nat) : Int) ∧ (j < k ↔ (l.take k).any p = true)
  | x :: xs, 0, m, _, hp => ⟨0, by simp at hp; simp [X5, hp], by simp⟩
  | x :: xs, k + 1, m, hk, hp => by
    by_cases hx : p x = true
    · exact ⟨0, by simp [X5, hx], by simp [hx]⟩
    · obtain ⟨j, h1, h2⟩ := Qzz xs k (m + 1) (by simpa using hk) (by simpa using hp)
      refine ⟨j + 1, by simp only [X5, hx]; rw [← show m + 1 + j = m + (j + 1) by omega]; simpa using h1, ?_⟩
      simp only [List.take_succ_cons, List.any_cons, hx]
      rw [← (show ((l : Bool) → (false || l) = l) from fun l => by cases l <;> rfl) ((xs.take k).any p)] at h2
      constructor
      · intro h; simpa using h2.1 (by omega)
      · intro h; have := h2.2 (by simpa using h); omega
theorem Qlp {α : Type} (f : α → ByteArray) (l : List α) (s : ByteArray) : ((l.map f).any fun x => decide (s = x)) = l.any fun y => decide (f y = s) := by
  rw [List.any_map]
  congr 1
  funext y
  exact decide_eq_decide.2 eq_comm
def Yh (n : FeedNet) (s : ByteArray) : Int := match X5 (fun t : FeedTrain => decide (t.Name = s)) (fun k _ => (k : Int)) 0 n.Trains with | .inl i => i | .inr _ => -1
theorem Qja (n : FeedNet) (s : ByteArray) (h : n.Trains.length < 1000000) : Qcd n s = some (Yh n s) := by
  unfold Qcd Yh
  rw [ZS n.Trains (fun t => decide (t.Name = s)) (fun k _ => (k : Int)), QF, Qkk]
  all_goals first
    | (intro k hk; unfold Qpd; rw [X7 hk, cond_true, X0 hk, QF, X6 k (by omega)])
    | (unfold Qpd; rw [X8]; rfl)
    | rfl
section
variable {n : FeedNet} (h : NetS n)
include h
theorem QNj : loop (Qji n) 0 = some (match Ya (ZY n) n.Stations.length with | some i => .inl (FeedMark.mk 1 i, ZY n i) | none => .inr ()) :=
  Qaf (fun k => (k : Int)) n.Stations.length (ZY n) (fun i e => (FeedMark.mk 1 i, e)) () (fun k hk _ => by
    have hst := h.st
    have hs : ZY n k = stE n.Stations[k] ((n.Stations.take k).map (·.Name)) := Jq _ _ _ hk
    have hlen : (n.Stations.take k).length = k := by simp; omega
    have inner : loop (Qjh n (k : Int)) 0 = some (X5 (fun y : FeedStation => decide (y.Name = n.Stations[k].Name)) (fun _ _ => Sum.inr (α := Int) (Sum.inl (β := Unit) (FeedMark.mk 1 (k : Int), (5 : Int)))) 0 (n.Stations.take k)) :=
      ZS (n.Stations.take k) _ _ (fun j hj => by
        rw [hlen] at hj
        unfold Qjh
        rw [X7 hj, cond_true, X0 (show j < n.Stations.length by omega), QF, X0 hk, QF, X6 j (by omega)]
        simp only [List.getElem_take]) (by
        rw [hlen]
        unfold Qjh
        rw [X8]; rfl)
    rw [hs]
    unfold Qji stE Js
    rw [X7 hk, cond_true, X0 hk, QF, Qqx, QF, inner, Qlp]
    cases hn : Qbi n.Stations[k].Name
    · rfl
    · simp only [Bool.not_true, cond_false, QF]
      rcases J3 (p := fun y : FeedStation => decide (y.Name = n.Stations[k].Name)) (res := fun _ _ => Sum.inr (α := Int) (Sum.inl (β := Unit) (FeedMark.mk 1 (k : Int), (5 : Int)))) (n.Stations.take k) 0 with ⟨k1, k2⟩ | ⟨j, x, k1, k2, k3⟩
      · rw [k1, k2]
        simp only [jn0, QF, Qas, X6 k (show k < 4611686018427387904 by omega)]
        generalize (decide (0 ≤ n.Stations[k].Limit) && decide (n.Stations[k].Limit ≤ 100000)) = b
        cases b <;> rfl
      · rw [k1, k3]; rfl) (fun _ => by
    unfold Qji
    rw [X8]; rfl)
theorem QNi : loop (Qjj n) 0 = some (match Ya (ZW n) n.Sections.length with | some i => .inl (FeedMark.mk 2 i, ZW n i) | none => .inr ()) :=
  Qaf (fun k => (k : Int)) n.Sections.length (ZW n) (fun i e => (FeedMark.mk 2 i, e)) () (fun k hk _ => by
    have hse := h.se
    have hs : ZW n k = Jy n.Sections[k] n.Stations.length := Jq _ _ _ hk
    rw [hs]
    unfold Qjj
    rw [X7 hk, cond_true, X0 hk, QF, QNh _ _ h.st, QF, X6 k (by omega)]
    by_cases h1 : Jy n.Sections[k] n.Stations.length = 0
    · simp [h1]
    · simp [h1]) (fun _ => by
    unfold Qjj
    rw [X8]; rfl)
theorem QNm : loop (Qjk n) 0 = some (match Ya (ZD n) n.Trains.length with | some i => .inl (FeedMark.mk 3 i, ZD n i) | none => .inr ()) :=
  Qaf (fun k => (k : Int)) n.Trains.length (ZD n) (fun i e => (FeedMark.mk 3 i, e)) () (fun k hk _ => by
    have hst := h.tr
    have hs : ZD n k = trE n.Trains[k] ((n.Trains.take k).map (·.Name)) n.Sections.length := Jq _ _ _ hk
    obtain ⟨j, hj1, hj2⟩ := Qzz (p := fun t : FeedTrain => decide (t.Name = n.Trains[k].Name)) n.Trains k 0 hk (by simp)
    have ht : Yh n n.Trains[k].Name = (j : Int) := by unfold Yh; rw [hj1]; simp
    rw [hs]
    unfold Qjk trE Js
    rw [X7 hk, cond_true, X0 hk, QF, Qqx, QF, Qlp]
    cases hn : Qbi n.Trains[k].Name
    · rfl
    · simp only [Bool.not_true, cond_false, QF]
      rw [Qja _ _ (by omega), ht, QF, QNl _ _ h.se (h.tn _ (List.getElem_mem hk)).2, QF, X6 k (by omega)]
      cases ha : (n.Trains.take k).any (fun t => decide (t.Name = n.Trains[k].Name)) with
      | true =>
        rw [decide_eq_true (show (j : Int) < k by have := hj2.2 ha; omega)]; rfl
      | false =>
        rw [decide_eq_false (show ¬ (j : Int) < k by intro e; have := hj2.1 (by omega); rw [ha] at this; cases this)]
        by_cases h2 : J7 n.Trains[k] n.Sections.length = 0
        · simp [h2]
        · simp [h2]) (fun _ => by
    unfold Qjk
    rw [X8]; rfl)
theorem QNe : Qjl n = some (ZT n) := by
  unfold Qjl ZT
  rw [QNj h, QNi h, QNm h]
  by_cases h1 : n.Stations.length = 0 ∨ n.Sections.length = 0
  · rw [if_pos h1]
    have : (decide ((n.Stations.length : Int) = 0) || decide ((n.Sections.length : Int) = 0)) = true := by
      simp only [Bool.or_eq_true, decide_eq_true_eq]; omega
    rw [this]; rfl
  · rw [if_neg h1]
    have : (decide ((n.Stations.length : Int) = 0) || decide ((n.Sections.length : Int) = 0)) = false := by
      rw [decide_eq_false (by omega), decide_eq_false (by omega)]; rfl
    rw [this, cond_false]
    by_cases h2 : 6 < n.Stations.length ∨ 10 < n.Sections.length ∨ 6 < n.Trains.length
    · rw [if_pos h2]
      have : ((decide (6 < (n.Stations.length : Int)) || decide (10 < (n.Sections.length : Int))) || decide (6 < (n.Trains.length : Int))) = true := by
        simp only [Bool.or_eq_true, decide_eq_true_eq]; omega
      rw [this]; rfl
    · rw [if_neg h2]
      have : ((decide (6 < (n.Stations.length : Int)) || decide (10 < (n.Sections.length : Int))) || decide (6 < (n.Trains.length : Int))) = false := by
        rw [decide_eq_false (by omega), decide_eq_false (by omega), decide_eq_false (by omega)]; rfl
      rw [this, cond_false]
      cases Ya (ZY n) n.Stations.length with
      | some i => rfl
      | none =>
        cases Ya (ZW n) n.Sections.length with
        | some i => rfl
        | none =>
          cases Ya (ZD n) n.Trains.length with
          | some i => rfl
          | none => rfl
end
end Go.Gw

end
section
set_option maxRecDepth 4096
namespace Go.Gw
open Go
theorem QDh (l : List FeedDeparture) (h : l.length < 1000000) : Qjm l = some l := by
  unfold Qjm; rw [J9 (by simp; omega)]; rfl
theorem QDi {n : FeedNet} (h : NetS n) : Qga n = some n := by
  have key : loop (Qjn n) (0, ([] : List FeedTrain)) = some n.Trains :=
    Z8 (fun k => ((k : Int), n.Trains.take k)) n.Trains.length (fun k hk => by
      have hst := h.tr
      have hsteps := (h.tn _ (List.getElem_mem hk)).2
      unfold Qjn
      simp only [X7 hk, cond_true, X0 hk, QF]
      rw [J9 (by simp; omega), QF, J9 (by simp; omega), QF, X6 k (by omega), List.nil_append]
      congr 3
      rw [List.take_add_one, List.getElem?_eq_getElem hk]; rfl) (by
      unfold Qjn
      simp only [X8, cond_false, List.take_length])
  unfold Qga
  have h1 := h.st
  have h2 := h.se
  rw [J9 (by simp; omega), J9 (by simp; omega), key]
  rfl
def Qfk (n : FeedNet) : Bool := !(decide (8 < n.Stations.length) || decide (12 < n.Sections.length) || decide (8 < n.Trains.length)) && !(n.Stations.any fun s => decide (20 < (s.Name.size : Int))) && !(n.Trains.any fun t => decide (20 < (t.Name.size : Int)) || decide (14 < (t.Steps.length : Int)))
theorem QIo (n : FeedNet) : Qin n = some (Qfk n) := by
  unfold Qin Qfk
  by_cases h : 8 < n.Stations.length ∨ 12 < n.Sections.length ∨ 8 < n.Trains.length
  · have e1 : ((decide (8 < (n.Stations.length : Int)) || decide (12 < (n.Sections.length : Int))) || decide (8 < (n.Trains.length : Int))) = true := by
      simp only [Bool.or_eq_true, decide_eq_true_eq]; omega
    have e2 : (decide (8 < n.Stations.length) || decide (12 < n.Sections.length) || decide (8 < n.Trains.length)) = true := by
      simp only [Bool.or_eq_true, decide_eq_true_eq]; omega
    rw [e1, e2]; rfl
  · have e1 : ((decide (8 < (n.Stations.length : Int)) || decide (12 < (n.Sections.length : Int))) || decide (8 < (n.Trains.length : Int))) = false := by
      rw [decide_eq_false (by omega), decide_eq_false (by omega), decide_eq_false (by omega)]; rfl
    have e2 : (decide (8 < n.Stations.length) || decide (12 < n.Sections.length) || decide (8 < n.Trains.length)) = false := by
      rw [decide_eq_false (by omega), decide_eq_false (by omega), decide_eq_false (by omega)]; rfl
    rw [e1, e2, cond_false, ZS n.Stations (fun s => decide (20 < (s.Name.size : Int))) (fun _ _ => false), QF, ZS n.Trains (fun t => decide (20 < (t.Name.size : Int)) || decide (14 < (t.Steps.length : Int))) (fun _ _ => false)]
    · rcases J3 (p := fun s : FeedStation => decide (20 < (s.Name.size : Int))) (res := fun _ _ => false) n.Stations 0 with ⟨k1, k2⟩ | ⟨j, x, k1, k2, k3⟩
      · rw [k1, k2]
        rcases J3 (p := fun t : FeedTrain => decide (20 < (t.Name.size : Int)) || decide (14 < (t.Steps.length : Int))) (res := fun _ _ => false) n.Trains 0 with ⟨k3, k4⟩ | ⟨j, x, k3, k4, k5⟩
        · rw [k3, k4]; rfl
        · rw [k3, k5]; rfl
      · rw [k1, k3]; rfl
    · intro k hk
      unfold Qof
      rw [X7 hk, cond_true, X0 hk, QF, X6 k (by omega)]
      cases h1 : decide (20 < (n.Trains[k].Name.size : Int)) <;> simp
    · unfold Qof
      rw [X8]; rfl
    · intro k hk
      unfold Qoe
      rw [X7 hk, cond_true, X0 hk, QF, X6 k (by omega)]
    · unfold Qoe
      rw [X8]; rfl
theorem QIn {n : FeedNet} (h : Qfk n = true) : NetS n := by
  unfold Qfk at h
  simp only [Bool.and_eq_true, Bool.not_eq_true', Bool.or_eq_false_iff, decide_eq_false_iff_not, List.any_eq_false] at h
  obtain ⟨⟨⟨⟨h1, h2⟩, h3⟩, h4⟩, h5⟩ := h
  refine ⟨by omega, by omega, by omega, fun s hs => ?_, fun t ht => ?_⟩
  · have := h4 s hs; simp at this; omega
  · have := h5 t ht; simp at this; omega
def Qgg (l : List FeedDeparture) : Bool := !(decide (8 < l.length)) && !(l.any fun d => decide (20 < (d.Train.size : Int)))
theorem QPc (l : List FeedDeparture) : Qir l = some (Qgg l) := by
  unfold Qir Qgg
  by_cases h : 8 < l.length
  · rw [decide_eq_true (show 8 < (l.length : Int) by omega), decide_eq_true h]; rfl
  · rw [decide_eq_false (show ¬ 8 < (l.length : Int) by omega), decide_eq_false h, cond_false, ZS l (fun d => decide (20 < (d.Train.size : Int))) (fun _ _ => false)]
    · rcases J3 (p := fun d : FeedDeparture => decide (20 < (d.Train.size : Int))) (res := fun _ _ => false) l 0 with ⟨k1, k2⟩ | ⟨j, x, k1, k2, k3⟩
      · rw [k1, k2]; rfl
      · rw [k1, k3]; rfl
    · intro k hk
      unfold Qog
      rw [X7 hk, cond_true, X0 hk, QF, X6 k (by omega)]
    · unfold Qog
      rw [X8]; rfl
theorem QPb {l : List FeedDeparture} (h : Qgg l = true) : l.length ≤ 8 := by
  unfold Qgg at h; simp at h; omega
end Go.Gw

end
section
set_option maxRecDepth 4096
namespace Go.Gw
open Go
def Qaa (n : FeedNet) (d : FeedDeparture) (others : List FeedDeparture) : Int := if Yh n d.Train < 0 then 6 else if (others.any fun o => decide (o.Train = d.Train)) = true then 26 else bif !(decide (0 ≤ d.At) && decide (d.At ≤ 1000)) then 2 else 0
def Zd (n : FeedNet) (l : List FeedDeparture) (i : Nat) : Int := (l[i]?.map fun d => Qaa n d (l.take i)).getD 0
def Xc (n : FeedNet) (d : FeedDeparture) : feed_run := feed_run.mk (n.Trains[(Yh n d.Train).toNat]?.getD default) d.At
theorem Qgp {n : FeedNet} {s : ByteArray} (h : 0 ≤ Yh n s) : ∃ t, n.Trains[(Yh n s).toNat]? = some t ∧ t.Name = s ∧ (Yh n s).toNat < n.Trains.length := by
  have key : ∀ (l : List FeedTrain) (m : Nat), (X5 (fun t : FeedTrain => decide (t.Name = s)) (fun k _ => (k : Int)) m l = .inr ()) ∨ ∃ (j : Nat) (t : FeedTrain), X5 (fun t : FeedTrain => decide (t.Name = s)) (fun k _ => (k : Int)) m l = .inl ((m + j : Nat) : Int) ∧ l[j]? = some t ∧ t.Name = s := by
    intro l
    induction l with
    | nil => intro m; exact .inl rfl
    | cons x xs ih =>
      intro m
      by_cases hx : x.Name = s
      · exact .inr ⟨0, x, by simp [X5, hx], rfl, hx⟩
      · rcases ih (m + 1) with h1 | ⟨j, t, h1, h2, h3⟩
        · exact .inl (by simp [X5, hx, h1])
        · exact .inr ⟨j + 1, t, by simp only [X5, hx, decide_false]; rw [← show m + 1 + j = m + (j + 1) by omega]; simpa using h1, h2, h3⟩
  rcases key n.Trains 0 with h1 | ⟨j, t, h1, h2, h3⟩
  · unfold Yh at h; rw [h1] at h; simp at h
  · have e : Yh n s = (j : Int) := by unfold Yh; rw [h1]; simp
    rw [e]
    exact ⟨t, by simpa using h2, h3, by simpa using (List.getElem?_eq_some_iff.1 h2).1⟩
theorem QEk (n : FeedNet) (s : ByteArray) (h : n.Trains.length < 1000000) : Qfc ⟨n⟩ s = some (Yh n s) := by
  unfold Qfc Qkf Yh
  rw [ZS n.Trains (fun t => decide (t.Name = s)) (fun k _ => (k : Int)), QF, Qkk]
  · rfl
  · intro k hk
    unfold Qke
    rw [X7 hk, cond_true, X0 hk, QF, X6 k (by omega)]; rfl
  · unfold Qke
    rw [X8]; rfl
theorem QCv (l : List feed_run) (d : FeedDeparture) (hl : l.length < 1000000) : Qgh l d = some (l.any fun r => decide (r.FeedTrain.Name = d.Train)) := by
  unfold Qgh Qkh
  rw [ZS l (fun r => decide (r.FeedTrain.Name = d.Train)) (fun k _ => (k : Int)), QF, Qkk, QF, Qpw]
  · intro k hk
    unfold Qkg
    rw [X7 hk, cond_true, X0 hk, QF, X6 k (by omega)]; rfl
  · unfold Qkg
    rw [X8]; rfl
theorem Qmf {n : FeedNet} {d : FeedDeparture} {o : List FeedDeparture} (h : Qaa n d o = 0) : 0 ≤ Yh n d.Train := by
  unfold Qaa at h
  split at h
  · cases h
  · omega
theorem QOs {n : FeedNet} (s : ByteArray) (l : List FeedDeparture) (h : ∀ d ∈ l, 0 ≤ Yh n d.Train) : ((l.map (Xc n)).any fun r => decide (r.FeedTrain.Name = s)) = l.any fun d => decide (d.Train = s) := by
  rw [List.any_map]
  induction l with
  | nil => rfl
  | cons d l ih =>
    simp only [List.any_cons]
    rw [ih fun x hx => h x (List.mem_cons_of_mem _ hx)]
    congr 1
    obtain ⟨t, h1, h2, _⟩ := Qgp (h d (List.mem_cons_self ..))
    simp [Xc, h1, h2]
theorem QIr (a b c : Int) : Zg [a, b, c] = if a ≠ 0 then a else if b ≠ 0 then b else c := by
  by_cases h : a = 0 <;> by_cases h2 : b = 0 <;> by_cases h3 : c = 0 <;> simp [Zg, h, h2, h3]
theorem QEe (n : FeedNet) (l : List FeedDeparture) (hn : n.Trains.length < 1000) : Qfb ⟨n⟩ l = some (if 6 < l.length then ([], 0, 8) else match Ya (Zd n l) l.length with | some i => ([], (i : Int), Zd n l i) | none => (l.map (Xc n), 0, 0)) := by
  unfold Qfb
  by_cases h6 : 6 < l.length
  · rw [decide_eq_true (show 6 < (l.length : Int) by omega), if_pos h6]; rfl
  · rw [decide_eq_false (show ¬ 6 < (l.length : Int) by omega), if_neg h6, cond_false]
    have key : loop (Qfa l ⟨n⟩) (([] : List feed_run), 0) = some (match Ya (Zd n l) l.length with | some i => .inl ([], (i : Int), Zd n l i) | none => .inr (l.map (Xc n))) :=
      Qaf (fun k => ((l.take k).map (Xc n), (k : Int))) l.length (Zd n l) (fun i e => (([] : List feed_run), (i : Int), e)) (l.map (Xc n)) (fun k hk hpre => by
        have hs : Zd n l k = Qaa n l[k] (l.take k) := Jq _ _ _ hk
        have hall : ∀ d ∈ l.take k, 0 ≤ Yh n d.Train := fun d hd => by
          obtain ⟨j, hj, rfl⟩ := List.mem_iff_getElem.1 hd
          have hjk : j < k := by rw [List.length_take] at hj; omega
          have := hpre j hjk
          rw [show Zd n l j = Qaa n l[j] (l.take j) from Jq _ _ _ (by omega)] at this
          rw [List.getElem_take]
          exact Qmf this
        rw [hs]
        unfold Qfa
        simp only [X7 hk, cond_true, X0 hk, QF]
        rw [QEk n _ (by omega), QF, QCv _ _ (by simp; omega), QF, QOs _ _ hall]
        unfold Qbw
        simp only [J8, Qan, QF]
        rw [Qae _ (by simp), QF, QIr]
        unfold Qaa
        generalize (decide (0 ≤ l[k].At) && decide (l[k].At ≤ 1000)) = b
        generalize ((l.take k).any fun d => decide (d.Train = l[k].Train)) = tw
        by_cases ht : Yh n l[k].Train < 0
        · rw [decide_eq_false (show ¬ 0 ≤ Yh n l[k].Train by omega)]
          simp [ht]
        · rw [decide_eq_true (show 0 ≤ Yh n l[k].Train by omega), if_neg ht]
          cases tw
          · cases b
            · rfl
            · simp only [cond_true, Bool.not_false, Bool.not_true, cond_false, ne_eq, not_true_eq_false, if_false, decide_true]
              obtain ⟨t, h1, h2, h3⟩ := Qgp (show 0 ≤ Yh n l[k].Train by omega)
              have hidx : idx n.Trains (Yh n l[k].Train) = some t := by unfold idx; rw [if_pos (by omega)]; exact h1
              rw [hidx, QF, J9 (by simp; omega), QF, X6 k (by omega)]
              have : feed_run.mk t l[k].At = Xc n l[k] := by unfold Xc; rw [h1]; rfl
              rw [this, Qko l (Xc n) k hk]
              rfl
          · rfl) (fun _ => by
        unfold Qfa
        simp only [X8, cond_false, List.take_length])
    rw [key, QF]
    cases Ya (Zd n l) l.length <;> rfl
theorem QNd (n : FeedNet) (l : List FeedDeparture) (hn : n.Trains.length < 1000) : Qjg n l = some (if 6 < l.length then (0, 8) else match Ya (Zd n l) l.length with | some i => ((i : Int), Zd n l i) | none => (0, 0)) := by
  unfold Qjg
  by_cases h6 : 6 < l.length
  · rw [decide_eq_true (show 6 < (l.length : Int) by omega), if_pos h6]; rfl
  · rw [decide_eq_false (show ¬ 6 < (l.length : Int) by omega), if_neg h6, cond_false]
    have key : loop (Qjf l n) 0 = some (match Ya (Zd n l) l.length with | some i => .inl ((i : Int), Zd n l i) | none => .inr ()) :=
      Qaf (fun k => (k : Int)) l.length (Zd n l) (fun i e => ((i : Int), e)) () (fun k hk _ => by
        have hs : Zd n l k = Qaa n l[k] (l.take k) := Jq _ _ _ hk
        have hlen : (l.take k).length = k := by simp; omega
        have inner : loop (Qje l (k : Int)) 0 = some (X5 (fun y : FeedDeparture => decide (y.Train = l[k].Train)) (fun _ _ => Sum.inr (α := Int) (Sum.inl (β := Unit) ((k : Int), (26 : Int)))) 0 (l.take k)) :=
          ZS (l.take k) _ _ (fun j hj => by
            rw [hlen] at hj
            unfold Qje
            rw [X7 hj, cond_true, X0 (show j < l.length by omega), QF, X0 hk, QF, X6 j (by omega)]
            simp only [List.getElem_take]) (by
            rw [hlen]
            unfold Qje
            rw [X8]; rfl)
        rw [hs]
        unfold Qjf Qaa
        rw [X7 hk, cond_true, X0 hk, QF, Qja _ _ (by omega), QF, inner]
        by_cases ht : Yh n l[k].Train < 0
        · rw [decide_eq_true ht, if_pos ht]; rfl
        · rw [decide_eq_false ht, if_neg ht, cond_false, QF]
          rcases J3 (p := fun y : FeedDeparture => decide (y.Train = l[k].Train)) (res := fun _ _ => Sum.inr (α := Int) (Sum.inl (β := Unit) ((k : Int), (26 : Int)))) (l.take k) 0 with ⟨k1, k2⟩ | ⟨j, x, k1, k2, k3⟩
          · rw [k1, k2]
            simp only [jn0, QF, Qas, X6 k (show k < 4611686018427387904 by omega)]
            generalize (decide (0 ≤ l[k].At) && decide (l[k].At ≤ 1000)) = b
            cases b <;> rfl
          · rw [k1, k3]; rfl) (fun _ => by
        unfold Qjf
        rw [X8]; rfl)
    rw [key, QF]
    cases Ya (Zd n l) l.length <;> rfl
end Go.Gw

end
section
set_option maxRecDepth 4096
namespace Go.Gw
open Go
/-! ### The greatest common divisor -/
/-! ### Sums -/
theorem Qpx {c : Int} (hc : 0 ≤ c) : ∀ {l : List Int}, (∀ x ∈ l, -c ≤ x ∧ x ≤ c) → -(c * l.length) ≤ l.sum ∧ l.sum ≤ c * l.length
  | [], _ => by simp
  | x :: l, h => by
    have h1 := h x (List.mem_cons_self ..)
    have h2 := Qpx hc (l := l) fun y hy => h y (List.mem_cons_of_mem _ hy)
    simp only [List.sum_cons, List.length_cons]
    have : c * ((l.length + 1 : Nat) : Int) = c * l.length + c := by rw [Int.natCast_add, Int.mul_add]; simp
    rw [this]
    omega
theorem QAf {l : List Int} {k : Nat} (hk : k < l.length) : (l.take (k + 1)).sum = (l.take k).sum + l[k] := by
  rw [List.take_add_one, List.getElem?_eq_getElem hk, List.sum_append]
  simp
theorem QQr {l : List Int} {c : Int} (hc : 0 ≤ c) (hc2 : c ≤ 1000000000) (h : ∀ x ∈ l, -c ≤ x ∧ x ≤ c) (hl : l.length ≤ 1000) : Qjw l = some l.sum := by
  have key : loop (Qjv l) (0, 0) = some l.sum := Z8 (o := l.sum) (fun k => ((l.take k).sum, (k : Int))) l.length ?_ ?_
  · unfold Qjw
    rw [key]; rfl
  · intro k hk
    unfold Qjv
    have hb := Qpx hc (l := l.take (k + 1)) fun x hx => h x (List.mem_of_mem_take hx)
    have hlen : (l.take (k + 1)).length = k + 1 := by simp; omega
    rw [hlen, QAf hk] at hb
    have hm : c * ((k + 1 : Nat) : Int) ≤ 1000000000 * 1000 := Int.mul_le_mul hc2 (by omega) (by omega) (by omega)
    simp only [X7 hk, cond_true, X0 hk, QF]
    rw [Xy (by omega), X6 k (by omega), QAf hk]
  · unfold Qjv
    simp only [X8, cond_false, List.take_length]
end Go.Gw

end
section
set_option maxRecDepth 4096
namespace Go.Gw
open Go
def Jn (st : List FeedStep) (k : Int) (s : Nat) : Int := if 0 ≤ k ∧ k ≤ (st.length : Int) - 1 then (match st[k.toNat]? with | some x => if x.Section = (s : Int) then x.Power else 0 | none => 0) else 0
def X9 (l : List feed_run) (t : Int) (s : Nat) : Int := (l.map fun r => Jn r.FeedTrain.Steps (t - r.at_) s).sum
def Zb (m : Nat) (r : feed_run) : Prop := (∀ x ∈ r.FeedTrain.Steps, 0 ≤ x.Section ∧ x.Section ≤ (m : Int) - 1 ∧ -20000 ≤ x.Power ∧ x.Power ≤ 20000) ∧ r.FeedTrain.Steps.length ≤ 12 ∧ 0 ≤ r.at_ ∧ r.at_ ≤ 1000
theorem QDj {m : Nat} {r : feed_run} (h : Zb m r) (k : Int) (s : Nat) : -20000 ≤ Jn r.FeedTrain.Steps k s ∧ Jn r.FeedTrain.Steps k s ≤ 20000 := by
  unfold Jn
  split
  · split
    · rename_i x hx
      have := h.1 x (List.mem_of_getElem? hx)
      split <;> omega
    · omega
  · omega
theorem Qxq {m : Nat} {l : List feed_run} (h : ∀ r ∈ l, Zb m r) (t : Int) (s : Nat) : -(20000 * (l.length : Int)) ≤ X9 l t s ∧ X9 l t s ≤ 20000 * (l.length : Int) := by
  have := Qpx (c := 20000) (by omega) (l := l.map fun r => Jn r.FeedTrain.Steps (t - r.at_) s) fun x hx => by
    obtain ⟨r, hr, rfl⟩ := List.mem_map.1 hx
    exact QDj (h r hr) _ _
  simpa [X9] using this
theorem Qoy {l : List feed_run} {t : Int} {s k : Nat} (hk : k < l.length) : X9 (l.take (k + 1)) t s = X9 (l.take k) t s + Jn l[k].FeedTrain.Steps (t - l[k].at_) s := by
  unfold X9
  rw [List.take_add_one, List.getElem?_eq_getElem hk, List.map_append, List.sum_append]
  simp
theorem QPa {m : Nat} {f g : Nat → Int} {s : Nat} (hs : s < m) (hv : ∀ i, i ≠ s → g i = f i) : ((List.range m).map f).set s (g s) = (List.range m).map g := by
  apply List.ext_getElem?
  intro i
  by_cases hi : i = s
  · subst hi
    rw [List.getElem?_set_self (by simpa using hs)]
    simp [hs]
  · rw [List.getElem?_set_ne (Ne.symm hi)]
    by_cases him : i < m
    · simp [him, hv i hi]
    · simp [him]
theorem QJu (m : Nat) (h : m < 1000) : mk (m : Int) (0 : Int) = some ((List.range m).map fun _ => (0 : Int)) := by
  unfold mk
  rw [if_pos (by omega)]
  congr 1
  apply List.ext_getElem?
  intro i
  by_cases hi : i < m <;> simp [hi]
theorem QQq {m : Nat} {r : feed_run} (h : Zb m r) {t : Int} (ht : 0 ≤ t) (ht2 : t ≤ 100000) :
    ∃ o, Qbd r t = some o ∧ ((o.2 = false ∧ ∀ s, Jn r.FeedTrain.Steps (t - r.at_) s = 0) ∨ (o.2 = true ∧ 0 ≤ o.1.Section ∧ o.1.Section ≤ (m : Int) - 1 ∧ -20000 ≤ o.1.Power ∧ o.1.Power ≤ 20000 ∧ ∀ s : Nat, Jn r.FeedTrain.Steps (t - r.at_) s = if o.1.Section = (s : Int) then o.1.Power else 0)) := by
  obtain ⟨h1, h2, h3, h4⟩ := h
  unfold Qbd
  rw [Xy (by omega), Xy (by omega), Qan, QF]
  by_cases hin : 0 ≤ t - r.at_ ∧ t - r.at_ ≤ (r.FeedTrain.Steps.length : Int) - 1
  · have e : (decide (0 ≤ t - r.at_) && decide (t - r.at_ ≤ (r.FeedTrain.Steps.length : Int) - 1)) = true := by
      rw [decide_eq_true hin.1, decide_eq_true hin.2]; rfl
    have hk : (t - r.at_).toNat < r.FeedTrain.Steps.length := by omega
    have hidx : idx r.FeedTrain.Steps (t - r.at_) = some r.FeedTrain.Steps[(t - r.at_).toNat] := by
      unfold idx; rw [if_pos hin.1, List.getElem?_eq_getElem hk]
    rw [e]
    simp only [Bool.not_true, cond_false]
    rw [hidx, QF]
    have hb := h1 _ (List.getElem_mem hk)
    refine ⟨_, rfl, .inr ⟨rfl, hb.1, hb.2.1, hb.2.2.1, hb.2.2.2, fun s => ?_⟩⟩
    unfold Jn
    rw [if_pos hin, List.getElem?_eq_getElem hk]
  · have e : (decide (0 ≤ t - r.at_) && decide (t - r.at_ ≤ (r.FeedTrain.Steps.length : Int) - 1)) = false := by
      rw [Bool.eq_false_iff]; intro e; simp at e; exact hin (by omega)
    rw [e]
    exact ⟨_, rfl, .inl ⟨rfl, fun s => by unfold Jn; rw [if_neg hin]⟩⟩
theorem QMw {n : FeedNet} {l : List feed_run} (hn : n.Sections.length < 1000) (hl : l.length ≤ 8) (h : ∀ r ∈ l, Zb n.Sections.length r) {t : Int} (ht : 0 ≤ t) (ht2 : t ≤ 100000) :
    Qdc ⟨n⟩ l t = some ((List.range n.Sections.length).map (X9 l t)) := by
  have key : loop (Qez l t) ((List.range n.Sections.length).map (fun _ => (0 : Int)), 0) = some ((List.range n.Sections.length).map (X9 l t)) :=
    Z8 (fun k => ((List.range n.Sections.length).map (X9 (l.take k) t), (k : Int))) l.length (fun k hk => by
      obtain ⟨o, ho, hc⟩ := QQq (h _ (List.getElem_mem hk)) ht ht2
      unfold Qez
      simp only [X7 hk, cond_true, X0 hk, QF, ho]
      rw [X6 k (by omega)]
      rcases hc with ⟨h1, h2⟩ | ⟨h1, h2, h3, h4, h5, h6⟩
      · rw [h1, cond_false]
        congr 3
        apply List.map_congr_left
        intro s _
        rw [Qoy hk, h2 s]; simp
      · rw [h1, cond_true]
        have hs : o.1.Section.toNat < n.Sections.length := by omega
        have hsi : ((o.1.Section.toNat : Nat) : Int) = o.1.Section := by omega
        have hidx : idx ((List.range n.Sections.length).map (X9 (l.take k) t)) o.1.Section = some (X9 (l.take k) t o.1.Section.toNat) := by
          unfold idx; rw [if_pos h2]; simp [hs]
        have hb := Qxq (l := l.take k) (fun r hr => h r (List.mem_of_mem_take hr)) t o.1.Section.toNat
        have hlen : (l.take k).length ≤ 8 := by rw [List.length_take]; omega
        have hnew : w64 (X9 (l.take k) t o.1.Section.toNat + o.1.Power) = X9 (l.take (k + 1)) t o.1.Section.toNat := by
          rw [Qoy hk, h6, if_pos (by omega)]; exact Xy (by omega)
        rw [hidx, QF, QF, hnew, QPa (f := X9 (l.take k) t) (g := X9 (l.take (k + 1)) t) hs (fun i hi => by rw [Qoy hk, h6, if_neg (by omega)]; simp)]) (by
      unfold Qez
      simp only [X8, cond_false, List.take_length])
  unfold Qdc
  rw [QJu _ hn, QF, key]; rfl
end Go.Gw

end
section
set_option maxRecDepth 4096
namespace Go.Gw
open Go
structure NetOk (n : FeedNet) : Prop where
  st0 : 0 < n.Stations.length
  st6 : n.Stations.length ≤ 6
  se0 : 0 < n.Sections.length
  se10 : n.Sections.length ≤ 10
  tr6 : n.Trains.length ≤ 6
  lim : ∀ s ∈ n.Stations, 0 ≤ s.Limit ∧ s.Limit ≤ 100000
  sec : ∀ s ∈ n.Sections, Jy s n.Stations.length = 0
  tr : ∀ t ∈ n.Trains, J7 t n.Sections.length = 0
theorem Qvj {f : Nat → Int} {n : Nat} (h : (match Ya f n with | some i => f i | none => 0) = 0) : ∀ j, j < n → f j = 0 := by
  rcases Qav f n with ⟨h1, h2⟩ | ⟨i, h1, h2, h3, h4⟩
  · exact h2
  · rw [h1] at h; exact absurd h h3
theorem Qom {n : FeedNet} (h : (ZT n).2 = 0) : NetOk n := by
  unfold ZT at h
  split at h
  · cases h
  · rename_i h1
    split at h
    · cases h
    · rename_i h2
      rcases Qav (ZY n) n.Stations.length with ⟨a1, a2⟩ | ⟨i, a1, a2, a3, _⟩
      · rw [a1] at h
        rcases Qav (ZW n) n.Sections.length with ⟨b1, b2⟩ | ⟨i, b1, b2, b3, _⟩
        · rw [b1] at h
          rcases Qav (ZD n) n.Trains.length with ⟨c1, c2⟩ | ⟨i, c1, c2, c3, _⟩
          · refine ⟨by omega, by omega, by omega, by omega, by omega, fun s hs => ?_, fun s hs => ?_, fun t ht => ?_⟩
            · obtain ⟨k, hk, rfl⟩ := List.mem_iff_getElem.1 hs
              have := a2 k hk
              rw [show ZY n k = stE n.Stations[k] ((n.Stations.take k).map (·.Name)) from Jq _ _ _ hk] at this
              unfold stE at this
              split at this
              · rename_i hc; exact absurd this hc
              · cases hb : (decide (0 ≤ n.Stations[k].Limit) && decide (n.Stations[k].Limit ≤ 100000)) with
                | true => simpa using hb
                | false => rw [hb] at this; cases this
            · obtain ⟨k, hk, rfl⟩ := List.mem_iff_getElem.1 hs
              have := b2 k hk
              rwa [show ZW n k = Jy n.Sections[k] n.Stations.length from Jq _ _ _ hk] at this
            · obtain ⟨k, hk, rfl⟩ := List.mem_iff_getElem.1 ht
              have := c2 k hk
              rw [show ZD n k = trE n.Trains[k] ((n.Trains.take k).map (·.Name)) n.Sections.length from Jq _ _ _ hk] at this
              unfold trE at this
              split at this
              · rename_i hc; exact absurd this hc
              · exact this
          · rw [c1] at h; exact absurd h c3
        · rw [b1] at h; exact absurd h b3
      · rw [a1] at h; exact absurd h a3
theorem QAz {t : FeedTrain} {m : Nat} (h : J7 t m = 0) : (0 ≤ t.Earliest ∧ t.Earliest ≤ 1000) ∧ (0 ≤ t.Latest ∧ t.Latest ≤ 1000) ∧ t.Earliest ≤ t.Latest ∧ 0 < t.Steps.length ∧ t.Steps.length ≤ 12 ∧ ∀ x ∈ t.Steps, 0 ≤ x.Section ∧ x.Section ≤ (m : Int) - 1 ∧ -20000 ≤ x.Power ∧ x.Power ≤ 20000 := by
  unfold J7 QBa at h
  cases h1 : (decide (0 ≤ t.Earliest) && decide (t.Earliest ≤ 1000)) with
  | false => rw [h1] at h; cases h
  | true =>
    cases h2 : (decide (0 ≤ t.Latest) && decide (t.Latest ≤ 1000)) with
    | false => rw [h1, h2] at h; cases h
    | true =>
      cases h3 : decide (t.Earliest ≤ t.Latest) with
      | false => rw [h1, h2, h3] at h; cases h
      | true =>
        cases h4 : decide (0 < (t.Steps.length : Int)) with
        | false => rw [h1, h2, h3, h4] at h; cases h
        | true =>
          cases h5 : decide ((t.Steps.length : Int) ≤ 12) with
          | false => rw [h1, h2, h3, h4, h5] at h; cases h
          | true =>
            rw [h1, h2, h3, h4, h5] at h
            simp only [Bool.and_self, Bool.not_true, cond_false] at h
            unfold Qkl at h
            have hz := Qvj h
            simp only [Bool.and_eq_true, decide_eq_true_eq] at h1 h2 h3 h4 h5
            refine ⟨h1, h2, h3, by omega, by omega, fun x hx => ?_⟩
            obtain ⟨k, hk, rfl⟩ := List.mem_iff_getElem.1 hx
            have := hz k hk
            rw [Qob _ _ _ hk] at this
            unfold Jz at this
            cases a : (decide (0 ≤ t.Steps[k].Section) && decide (t.Steps[k].Section ≤ (m : Int) - 1)) with
            | false => rw [a] at this; cases this
            | true =>
              cases b : (decide (-20000 ≤ t.Steps[k].Power) && decide (t.Steps[k].Power ≤ 20000)) with
              | false => rw [a, b] at this; cases this
              | true =>
                simp only [Bool.and_eq_true, decide_eq_true_eq] at a b
                exact ⟨a.1, a.2, b.1, b.2⟩
theorem QOp {n : FeedNet} (hn : NetOk n) {d : FeedDeparture} {o : List FeedDeparture} (h : Qaa n d o = 0) : Zb n.Sections.length (Xc n d) := by
  have h0 := Qmf h
  obtain ⟨t, h1, h2, h3⟩ := Qgp h0
  have ht := QAz (hn.tr t (List.mem_of_getElem? h1))
  unfold Qaa at h
  rw [if_neg (by omega)] at h
  split at h
  · cases h
  · cases b : (decide (0 ≤ d.At) && decide (d.At ≤ 1000)) with
    | false => rw [b] at h; cases h
    | true =>
      simp only [Bool.and_eq_true, decide_eq_true_eq] at b
      unfold Zb Xc
      rw [h1]
      exact ⟨ht.2.2.2.2.2, ht.2.2.2.2.1, b.1, b.2⟩
end Go.Gw

end
section
set_option maxRecDepth 4096
namespace Go.Gw
open Go
structure LadOk (l : FeedLadder) : Prop where
  pos : 0 < l.Loads.length
  most : l.Loads.length ≤ 8
  len : l.Ohms.length = l.Loads.length + 1
  ohm : ∀ x ∈ l.Ohms, 1 ≤ x ∧ x ≤ 500
  load : ∀ x ∈ l.Loads, -20000 ≤ x ∧ x ≤ 20000
theorem Qdl {a b m n : Int} (ha : -m ≤ a ∧ a ≤ m) (hb : -n ≤ b ∧ b ≤ n) : -(m * n) ≤ a * b ∧ a * b ≤ m * n := by
  have h1 : a.natAbs ≤ m.natAbs := by omega
  have h2 : b.natAbs ≤ n.natAbs := by omega
  have h3 := Nat.mul_le_mul h1 h2
  rw [← Int.natAbs_mul, ← Int.natAbs_mul] at h3
  have h4 : 0 ≤ m * n := Int.mul_nonneg (by omega) (by omega)
  omega
section
variable {l : FeedLadder} (h : LadOk l)
include h
end
section
variable {l : FeedLadder} (h : LadOk l)
include h
end
end Go.Gw

end
section
set_option maxRecDepth 4096
namespace Go.Gw
open Go
def Ze (s : FeedSection) (p : Int) : Int := if p < 0 then p * (1000 - s.Loss) else p * (1000 + s.Loss)
def ZX (s : FeedSection) (k : Int) : Int := if s.Left = k then s.Share else if s.Right = k then 1000 - s.Share else 0
def JH (s : FeedSection) : Prop := (0 ≤ s.Share ∧ s.Share ≤ 1000) ∧ 0 ≤ s.Loss ∧ s.Loss ≤ 500
theorem QOu {s : FeedSection} {n : Nat} (h : Jy s n = 0) : JH s := by
  unfold Jy Qyr at h
  have key : ((decide (0 ≤ s.Share) && decide (s.Share ≤ 1000)) && (decide (0 ≤ s.Loss) && decide (s.Loss ≤ 500))) = true := by
    cases hb : ((decide (0 ≤ s.Share) && decide (s.Share ≤ 1000)) && (decide (0 ≤ s.Loss) && decide (s.Loss ≤ 500))) with
    | true => rfl
    | false =>
      rw [hb] at h
      revert h
      generalize ((!(decide (s.Left = -1) || (decide (0 ≤ s.Left) && decide (s.Left ≤ (n : Int) - 1)))) || !(decide (s.Right = -1) || (decide (0 ≤ s.Right) && decide (s.Right ≤ (n : Int) - 1)))) = a
      generalize (decide (s.Left = -1) && decide (s.Right = -1)) = b
      generalize decide (s.Left = s.Right) = c
      cases a <;> cases b <;> cases c <;> intro h <;> cases h
  simp only [Bool.and_eq_true, decide_eq_true_eq] at key
  exact ⟨key.1, key.2⟩
theorem Qen {s : FeedSection} (hs : JH s) {p : Int} (hp : -160000 ≤ p ∧ p ≤ 160000) : -240000000 ≤ Ze s p ∧ Ze s p ≤ 240000000 := by
  obtain ⟨_, h1, h2⟩ := hs
  unfold Ze
  split
  · have := Qdl (a := p) (b := 1000 - s.Loss) (m := 160000) (n := 1500) hp (by omega); omega
  · have := Qdl (a := p) (b := 1000 + s.Loss) (m := 160000) (n := 1500) hp (by omega); omega
theorem Qpl {s : FeedSection} (hs : JH s) (k : Int) : -1000 ≤ ZX s k ∧ ZX s k ≤ 1000 := by
  obtain ⟨h0, _⟩ := hs
  unfold ZX
  split
  · omega
  · split <;> omega
theorem Qsb {s : FeedSection} (hs : JH s) {p : Int} (hp : -160000 ≤ p ∧ p ≤ 160000) : Qcz s p = some (Ze s p) := by
  have hb := Qen hs hp
  obtain ⟨_, h1, h2⟩ := hs
  unfold Qcz Ze at *
  by_cases h : p < 0
  · rw [if_pos h] at hb ⊢
    rw [decide_eq_true h, cond_true, Xy (x := 1000 - s.Loss) (by omega), Xy (by omega)]
  · rw [if_neg h] at hb ⊢
    rw [decide_eq_false h, cond_false, Xy (x := 1000 + s.Loss) (by omega), Xy (by omega)]
theorem QNf {s : FeedSection} (hs : JH s) {p : Int} (hp : -160000 ≤ p ∧ p ≤ 160000) : Qpf s p = some (Ze s p) := Qsb hs hp
theorem Qxr {s : FeedSection} (hs : JH s) (k : Int) : Qdq s k = some (ZX s k) := by
  obtain ⟨h0, _⟩ := hs
  unfold Qdq ZX
  by_cases h1 : s.Left = k
  · rw [decide_eq_true h1, if_pos h1]; rfl
  · rw [decide_eq_false h1, if_neg h1]
    by_cases h2 : s.Right = k
    · rw [decide_eq_true h2, if_pos h2]
      simp only [cond_false, cond_true]
      rw [Xy (by omega)]
    · rw [decide_eq_false h2, if_neg h2]; rfl
theorem QEc {s : FeedSection} (hs : JH s) (k : Int) : Qda s k = some (ZX s k) := by
  rw [← Qxr hs k]
  unfold Qda Qdq
  rw [show decide (k = s.Left) = decide (s.Left = k) from decide_eq_decide.2 eq_comm, show decide (k = s.Right) = decide (s.Right = k) from decide_eq_decide.2 eq_comm]
end Go.Gw

end
section
set_option maxRecDepth 4096
namespace Go.Gw
open Go
section
variable {secs : List FeedSection} {f : Nat → Int} (hs : ∀ s ∈ secs, JH s) (hf : ∀ j, -160000 ≤ f j ∧ f j ≤ 160000)
include hs hf
end
end Go.Gw

end
section
set_option maxRecDepth 4096
namespace Go.Gw
open Go
def pd (t : Int) (s : Nat) (r : feed_run) : List Int := if 0 ≤ t - r.at_ ∧ t - r.at_ ≤ (r.FeedTrain.Steps.length : Int) - 1 then (match r.FeedTrain.Steps[(t - r.at_).toNat]? with | some x => if x.Section = (s : Int) then [x.Power] else [] | none => []) else []
theorem QMv (t : Int) (s : Nat) (r : feed_run) : (pd t s r).sum = Jn r.FeedTrain.Steps (t - r.at_) s := by
  unfold pd Jn
  by_cases h : 0 ≤ t - r.at_ ∧ t - r.at_ ≤ (r.FeedTrain.Steps.length : Int) - 1
  · rw [if_pos h, if_pos h]
    cases hx : r.FeedTrain.Steps[(t - r.at_).toNat]? with
    | none => rfl
    | some x => by_cases hs : x.Section = (s : Int) <;> simp [hs]
  · rw [if_neg h, if_neg h]; rfl
theorem QMt (t : Int) (s : Nat) (r : feed_run) : (pd t s r).length ≤ 1 := by
  unfold pd
  split
  · split
    · split <;> simp
    · simp
  · simp
theorem QMu {m : Nat} {r : feed_run} (h : Zb m r) (t : Int) (s : Nat) : ∀ x ∈ pd t s r, -20000 ≤ x ∧ x ≤ 20000 := by
  intro x hx
  unfold pd at hx
  split at hx
  · split at hx
    · rename_i y hy
      split at hx
      · obtain rfl := List.mem_singleton.1 hx
        have := h.1 y (List.mem_of_getElem? hy); omega
      · cases hx
    · cases hx
  · cases hx
theorem Qvl (t : Int) (s : Nat) : ∀ l : List feed_run, (l.flatMap (pd t s)).sum = X9 l t s
  | [] => rfl
  | r :: l => by
    rw [List.flatMap_cons, List.sum_append, Qvl t s l, QMv]
    simp [X9]
theorem Qnw (t : Int) (s : Nat) : ∀ l : List feed_run, (l.flatMap (pd t s)).length ≤ l.length
  | [] => by simp
  | r :: l => by
    rw [List.flatMap_cons, List.length_append]
    have := Qnw t s l
    have := QMt t s r
    rw [List.length_cons]; omega
theorem QNg {n : FeedNet} (hn : n.Trains.length < 1000) {l : List FeedDeparture} (hl : l.length ≤ 8) {m : Nat} (h0 : ∀ d ∈ l, 0 ≤ Yh n d.Train) (h : ∀ d ∈ l, Zb m (Xc n d)) {t : Int} (ht : 0 ≤ t) (ht2 : t ≤ 100000) (s : Nat) :
    Qjt n l (s : Int) t = some ((l.map (Xc n)).flatMap (pd t s)) := by
  have key : loop (Qjs l n (s : Int) t) (([] : List Int), 0) = some ((l.map (Xc n)).flatMap (pd t s)) :=
    Z8 (fun k => (((l.take k).map (Xc n)).flatMap (pd t s), (k : Int))) l.length (fun k hk => by
      have hd := List.getElem_mem hk
      obtain ⟨T, h1, h2, h3⟩ := Qgp (h0 _ hd)
      have hr := h _ hd
      have hrun : Xc n l[k] = feed_run.mk T l[k].At := by unfold Xc; rw [h1]; rfl
      obtain ⟨r1, r2, r3, r4⟩ := hr
      rw [hrun] at r1 r2 r3 r4
      have hidx : idx n.Trains (Yh n l[k].Train) = some T := by unfold idx; rw [if_pos (h0 _ hd)]; exact h1
      have hlen := Qnw t s ((l.take k).map (Xc n))
      have hnext : ((l.take k).map (Xc n)).flatMap (pd t s) ++ pd t s (Xc n l[k]) = ((l.take (k + 1)).map (Xc n)).flatMap (pd t s) := by
        rw [← Qko l (Xc n) k hk, List.flatMap_append]; simp
      have hlk : ((l.take k).map (Xc n)).length ≤ 8 := by simp; omega
      unfold Qjs
      simp only [X7 hk, cond_true, X0 hk, QF]
      rw [Qja n _ (by omega), QF, hidx, QF, QF]
      simp only []
      simp only at r2 r3 r4
      rw [Xy (x := t - l[k].At) (by omega), Xy (x := (T.Steps.length : Int) - 1) (by omega), Qas, QF, X6 k (by omega), ← hnext, hrun]
      unfold pd
      by_cases hin : 0 ≤ t - l[k].At ∧ t - l[k].At ≤ (T.Steps.length : Int) - 1
      · have hk2 : (t - l[k].At).toNat < T.Steps.length := by omega
        have hi2 : idx T.Steps (t - l[k].At) = some T.Steps[(t - l[k].At).toNat] := by unfold idx; rw [if_pos hin.1, List.getElem?_eq_getElem hk2]
        rw [decide_eq_true hin.1, decide_eq_true hin.2, if_pos hin, List.getElem?_eq_getElem hk2]
        simp only [Bool.and_self, cond_true, Bool.true_and, hi2, QF]
        by_cases hsec : T.Steps[(t - l[k].At).toNat].Section = (s : Int)
        · rw [decide_eq_true hsec, if_pos hsec, cond_true, J9 (by show (((l.take k).map (Xc n)).flatMap (pd t s)).length + 1 ≤ 1073741824; omega), QF]
        · rw [decide_eq_false hsec, if_neg hsec, cond_false, List.append_nil]
      · have e : (decide (0 ≤ t - l[k].At) && decide (t - l[k].At ≤ (T.Steps.length : Int) - 1)) = false := by
          rw [Bool.eq_false_iff]; intro e; simp only [Bool.and_eq_true, decide_eq_true_eq] at e; exact hin e
        rw [e, if_neg hin]
        simp only [cond_false, QF, Bool.false_and, List.append_nil]) (by
      unfold Qjs
      simp only [X8, cond_false, List.take_length])
  unfold Qjt
  rw [key, QF]
end Go.Gw

end
section
set_option maxRecDepth 4096
namespace Go.Gw
open Go
end Go.Gw

end
section
set_option maxRecDepth 4096
namespace Go.Gw
open Go
def Qhs (n : FeedNet) (l : List FeedDeparture) : Int := if 6 < l.length then 8 else match Ya (Zd n l) l.length with | some i => Zd n l i | none => 0
def JM (n : FeedNet) (l : List FeedDeparture) : Int := if (ZT n).2 ≠ 0 then (ZT n).2 else Qhs n l
def JB (t : Int) : Int := if 0 ≤ t ∧ t ≤ 1012 then 0 else 2
theorem Qdy (a b : Prop) [Decidable a] [Decidable b] : (decide a && decide b) = decide (a ∧ b) := (Bool.decide_and a b).symm
theorem Qsd (t : Int) : Qbz t = some (JB t) := by
  unfold Qbz JB
  rw [Qan, QF, J8, QF, Qdy]
  by_cases h : 0 ≤ t ∧ t ≤ 1012 <;> simp [h]
theorem Qxs (t : Int) : Qgb t = some (JB t) := by
  unfold Qgb JB
  rw [Qas, QF, Qdy]
  by_cases h : 0 ≤ t ∧ t ≤ 1012 <;> simp [h]
theorem QLy {n : FeedNet} (h : NetS n) (l : List FeedDeparture) : Qbx n l = some (⟨n⟩, (if JM n l = 0 then l.map (Xc n) else []), JM n l) := by
  unfold Qbx Qfd JM
  rw [QEb h, QF, QF]
  by_cases h0 : (ZT n).2 = 0
  · simp only [h0, ne_eq, not_true_eq_false, if_false, decide_true, Bool.not_true, cond_false]
    rw [show feed_net.mk (FeedNet.mk n.Stations n.Sections n.Trains) = feed_net.mk n from rfl, QEe n l h.tr, QF]
    unfold Qhs
    by_cases h6 : 6 < l.length
    · simp [h6]
    · rw [if_neg h6, if_neg h6]
      rcases Qav (Zd n l) l.length with ⟨e, _⟩ | ⟨i, e, _, hi, _⟩
      · rw [e]; simp
      · rw [e]; simp [hi]
  · simp [h0]
theorem QNc {n : FeedNet} (h : NetS n) (l : List FeedDeparture) : Qjd n l = some (JM n l) := by
  unfold Qjd Qpc JM Qhs
  rw [QNe h, QF]
  by_cases h0 : (ZT n).2 = 0
  · simp only [h0, ne_eq, not_true_eq_false, if_false, decide_true, Bool.not_true, cond_false, QF]
    rw [QNd n l h.tr, QF]
    by_cases h6 : 6 < l.length
    · rw [if_pos h6, if_pos h6]
    · rw [if_neg h6, if_neg h6]
      cases Ya (Zd n l) l.length <;> rfl
  · simp [h0]
theorem QIs (a b : Int) : Zg [a, b] = if a ≠ 0 then a else b := by
  unfold Zg Zg Zg; by_cases h : a = 0 <;> by_cases h2 : b = 0 <;> simp [h, h2]
theorem QIt (a b c : Int) : Zg [a, b, c] = if a ≠ 0 then a else if b ≠ 0 then b else c := by
  unfold Zg Zg Zg Zg; by_cases h : a = 0 <;> by_cases h2 : b = 0 <;> by_cases h3 : c = 0 <;> simp [h, h2, h3]
theorem Qhi {n : FeedNet} {l : List FeedDeparture} (h : JM n l = 0) : NetOk n ∧ l.length ≤ 6 ∧ ∀ d ∈ l, Zb n.Sections.length (Xc n d) ∧ 0 ≤ Yh n d.Train := by
  unfold JM at h
  by_cases h0 : (ZT n).2 = 0
  · have hn := Qom h0
    simp only [h0, ne_eq, not_true_eq_false, if_false] at h
    unfold Qhs at h
    by_cases h6 : 6 < l.length
    · rw [if_pos h6] at h; omega
    · rw [if_neg h6] at h
      refine ⟨hn, by omega, fun d hd => ?_⟩
      obtain ⟨k, hk, rfl⟩ := List.getElem_of_mem hd
      have hz := Qvj h k hk
      unfold Zd at hz
      rw [List.getElem?_eq_getElem hk] at hz
      exact ⟨QOp hn hz, Qmf hz⟩
  · rw [if_pos h0] at h; exact absurd h h0
end Go.Gw

end
section
set_option maxRecDepth 4096
namespace Go.Gw
open Go
def onI (r : feed_run) (t : Int) : Bool := decide (0 ≤ t - r.at_) && decide (t - r.at_ ≤ (r.FeedTrain.Steps.length : Int) - 1)
theorem QIy {l : List feed_run} {t : Int} (h : l.any (fun r => onI r t) = false) : X9 l t = fun _ => 0 := by
  funext s
  unfold X9
  induction l with
  | nil => rfl
  | cons r l ih =>
    rw [List.any_cons, Bool.or_eq_false_iff] at h
    rw [List.map_cons, List.sum_cons, ih h.2]
    have h1 := h.1
    unfold onI at h1
    rw [Qdy, decide_eq_false_iff_not] at h1
    unfold Jn
    rw [if_neg h1]; rfl
structure Rt (n : FeedNet) (l : List FeedDeparture) : Prop where
  ne : NetOk n
  tr : n.Trains.length < 1000
  l6 : l.length ≤ 6
  ru : ∀ d ∈ l, Zb n.Sections.length (Xc n d) ∧ 0 ≤ Yh n d.Train
theorem QOn {n : FeedNet} (h : NetS n) {l : List FeedDeparture} (hb : JM n l = 0) : Rt n l := ⟨(Qhi hb).1, h.tr, (Qhi hb).2.1, (Qhi hb).2.2⟩
section
variable {n : FeedNet} {l : List FeedDeparture} (h : Rt n l)
include h
theorem Qyd : ∀ r ∈ l.map (Xc n), Zb n.Sections.length r := fun r hr => by obtain ⟨d, hd2, rfl⟩ := List.mem_map.1 hr; exact (h.ru d hd2).1
theorem QCs {t : Int} (ht : 0 ≤ t) (ht2 : t ≤ 100000) : Qjq n l t = some ((l.map (Xc n)).any fun r => onI r t) := by
  unfold Qjq
  rw [ZS l (fun d => onI (Xc n d) t) (fun _ _ => true), QF, List.any_map]
  · rcases J3 (p := fun d => onI (Xc n d) t) (res := fun _ _ => true) l 0 with ⟨e1, e2⟩ | ⟨j, x, e1, _, e2⟩
    · rw [e1]; show _ = some (l.any fun d => onI (Xc n d) t); rw [e2]; rfl
    · rw [e1]; show _ = some (l.any fun d => onI (Xc n d) t); rw [e2]; rfl
  · intro k hk
    have hd := List.getElem_mem hk
    obtain ⟨T, h1, h2, h3⟩ := Qgp (h.ru _ hd).2
    have hr := (h.ru _ hd).1
    have hrun : Xc n l[k] = feed_run.mk T l[k].At := by unfold Xc; rw [h1]; rfl
    obtain ⟨r1, r2, r3, r4⟩ := hr
    rw [hrun] at r1 r2 r3 r4
    simp only at r2 r3 r4
    have hidx : idx n.Trains (Yh n l[k].Train) = some T := by unfold idx; rw [if_pos (h.ru _ hd).2]; exact h1
    have := h.l6
    unfold Qpe onI
    rw [hrun, X7 hk, cond_true, X0 hk, QF, QF, Qja n _ (by have := h.tr; omega), QF, hidx, QF, Xy (x := t - l[k].At) (by omega), Xy (x := (T.Steps.length : Int) - 1) (by omega), Qas, QF, X6 k (by omega)]
  · unfold Qpe
    rw [X8]; rfl
end
end Go.Gw

end
section
set_option maxRecDepth 4096
namespace Go.Gw
open Go
section
variable {n : FeedNet} {rs : List feed_run} (hn : NetOk n) (hl : rs.length ≤ 8) (h : ∀ r ∈ rs, Zb n.Sections.length r)
include hn
end
section
variable {n : FeedNet} {l : List FeedDeparture} (h : Rt n l)
include h
end
end Go.Gw

end
section
set_option maxRecDepth 4096
namespace Go.Gw
open Go
def Q0 (g : Nat → Int) : Nat → Int
  | 0 => 0
  | k + 1 => Q0 g k + g k
theorem Y2 {g : Nat → Int} {c : Int} (h : ∀ j, -c ≤ g j ∧ g j ≤ c) : ∀ k : Nat, -(c * (k : Int)) ≤ Q0 g k ∧ Q0 g k ≤ c * (k : Int)
  | 0 => by simp [Q0]
  | k + 1 => by
    have h1 := Y2 h k
    have h2 := h k
    simp only [Q0]
    rw [show c * ((k + 1 : Nat) : Int) = c * (k : Int) + c by rw [Int.natCast_add, Int.mul_add]; simp]
    omega
theorem Qck {g : Nat → Int} (h : ∀ j, g j = 0) : ∀ k, Q0 g k = 0
  | 0 => rfl
  | k + 1 => by simp only [Q0]; rw [Qck h k, h k]; rfl
theorem QAb (g g' : Nat → Int) : ∀ k, Q0 (fun j => g j + g' j) k = Q0 g k + Q0 g' k
  | 0 => rfl
  | k + 1 => by simp only [Q0]; rw [QAb g g' k]; omega
def YG (x : Int) : Int := if x < 0 then 0 else x
def ZL (x : Int) : Int := if x < -x then -x else x
theorem Qfp {x c : Int} (hc : 0 ≤ c) (h : x ≤ c) : 0 ≤ YG x ∧ YG x ≤ c := by unfold YG; split <;> omega
theorem QJw {x c : Int} (h : -c ≤ x ∧ x ≤ c) : 0 ≤ ZL x ∧ ZL x ≤ c := by unfold ZL; split <;> omega
def YH (t : Int) (r : feed_run) : Int := if 0 ≤ t - r.at_ ∧ t - r.at_ ≤ (r.FeedTrain.Steps.length : Int) - 1 then (match r.FeedTrain.Steps[(t - r.at_).toNat]? with | some x => x.Power | none => 0) else 0
theorem Qxo {m : Nat} {r : feed_run} (h : Zb m r) (t : Int) : -20000 ≤ YH t r ∧ YH t r ≤ 20000 := by
  unfold YH
  split
  · split
    · rename_i y hy
      have := h.1 y (List.mem_of_getElem? hy); omega
    · omega
  · omega
theorem QQp {m : Nat} {r : feed_run} (h : Zb m r) {t : Int} (ht : 0 ≤ t) (ht2 : t ≤ 100000) : ∃ o, Qbd r t = some o ∧ o.1.Power = YH t r := by
  obtain ⟨h1, h2, h3, h4⟩ := h
  unfold Qbd
  rw [Xy (by omega), Xy (by omega), Qan, QF]
  by_cases hin : 0 ≤ t - r.at_ ∧ t - r.at_ ≤ (r.FeedTrain.Steps.length : Int) - 1
  · have e : (decide (0 ≤ t - r.at_) && decide (t - r.at_ ≤ (r.FeedTrain.Steps.length : Int) - 1)) = true := by
      rw [decide_eq_true hin.1, decide_eq_true hin.2]; rfl
    have hk : (t - r.at_).toNat < r.FeedTrain.Steps.length := by omega
    have hidx : idx r.FeedTrain.Steps (t - r.at_) = some r.FeedTrain.Steps[(t - r.at_).toNat] := by
      unfold idx; rw [if_pos hin.1, List.getElem?_eq_getElem hk]
    rw [e]
    simp only [Bool.not_true, cond_false]
    rw [hidx, QF]
    refine ⟨_, rfl, ?_⟩
    unfold YH
    rw [if_pos hin, List.getElem?_eq_getElem hk]
  · have e : (decide (0 ≤ t - r.at_) && decide (t - r.at_ ≤ (r.FeedTrain.Steps.length : Int) - 1)) = false := by
      rw [Bool.eq_false_iff]; intro e; simp at e; exact hin (by omega)
    rw [e]
    exact ⟨_, rfl, by unfold YH; rw [if_neg hin]⟩
def fR (f : Int → Int) (R : List feed_run) (t : Int) : Int := (R.map fun r => f (YH t r)).sum
def fU (x : Int) : Int := 1000000 * YG x
def fB (x : Int) : Int := 1000000 * YG (-x)
theorem Qes {x : Int} (h : -20000 ≤ x ∧ x ≤ 20000) : 0 ≤ fU x ∧ fU x ≤ 20000000000 := by
  have := Qfp (x := x) (c := 20000) (by omega) h.2; unfold fU; omega
theorem Qeq {x : Int} (h : -20000 ≤ x ∧ x ≤ 20000) : 0 ≤ fB x ∧ fB x ≤ 20000000000 := by
  have := Qfp (x := -x) (c := 20000) (by omega) (by omega); unfold fB; omega
theorem Qer {m : Nat} {f : Int → Int} (hf : ∀ x, -20000 ≤ x ∧ x ≤ 20000 → 0 ≤ f x ∧ f x ≤ 20000000000) (t : Int) : ∀ {R : List feed_run}, (∀ r ∈ R, Zb m r) → 0 ≤ fR f R t ∧ fR f R t ≤ 20000000000 * (R.length : Int)
  | [], _ => by simp [fR]
  | r :: R, h => by
    have h1 := Qer hf t (R := R) fun r hr => h r (List.mem_cons_of_mem _ hr)
    have h2 := hf _ (Qxo (h r List.mem_cons_self) t)
    unfold fR at *
    rw [List.map_cons, List.sum_cons, List.length_cons]
    omega
theorem Qsc (f : Int → Int) {R : List feed_run} {t : Int} {k : Nat} (hk : k < R.length) : fR f (R.take (k + 1)) t = fR f (R.take k) t + f (YH t R[k]) := by
  unfold fR
  rw [List.take_add_one, List.getElem?_eq_getElem hk, List.map_append, List.sum_append]
  simp
theorem QCm {m : Nat} (N : feed_net) (e : Int) {R : List feed_run} (hR : ∀ r ∈ R, Zb m r) (hl : R.length ≤ 8) {t : Int} (ht : 0 ≤ t) (ht2 : t ≤ 100000) {u b : Int} (hu : -1000000000000000000 ≤ u ∧ u ≤ 1000000000000000000) (hb : -1000000000000000000 ≤ b ∧ b ≤ 1000000000000000000) :
    loop (Qcv (N, R, e) t) (0, u, b) = some (u + fR fU R t, b + fR fB R t) := by
  have key := Z8 (step := Qcv (N, R, e) t) (o := (u + fR fU R t, b + fR fB R t)) (fun k => ((k : Int), u + fR fU (R.take k) t, b + fR fB (R.take k) t)) R.length (fun k hk => by
    obtain ⟨o, ho, hp⟩ := QQp (hR _ (List.getElem_mem hk)) ht ht2
    have hT : ∀ r ∈ R.take k, Zb m r := fun r hr => hR r (List.mem_of_mem_take hr)
    have b1 := Qer (f := fU) (fun x h => Qes h) t hT
    have b2 := Qer (f := fB) (fun x h => Qeq h) t hT
    have bp := Qxo (hR _ (List.getElem_mem hk)) t
    have b3 := Qes bp
    have b4 := Qeq bp
    have hlk : (R.take k).length ≤ 8 := by rw [List.length_take]; omega
    rw [Qsc fU hk, Qsc fB hk]
    unfold Qcv
    simp only [X7 hk, cond_true, X0 hk, QF, ho, hp]
    rw [Xy (x := 0 - YH t R[k]) (by omega), show (0 : Int) - YH t R[k] = -YH t R[k] by omega]
    have e1 : (1000000 * if YH t R[k] < 0 then 0 else YH t R[k]) = fU (YH t R[k]) := rfl
    have e2 : (1000000 * if -YH t R[k] < 0 then 0 else -YH t R[k]) = fB (YH t R[k]) := rfl
    rw [e1, e2, Xy (x := fU (YH t R[k])) (by omega), Xy (x := fB (YH t R[k])) (by omega), Xy (x := u + fR fU (R.take k) t + fU (YH t R[k])) (by omega), Xy (x := b + fR fB (R.take k) t + fB (YH t R[k])) (by omega), X6 k (by omega), Int.add_assoc, Int.add_assoc]) (by
    unfold Qcv
    simp only [X8, cond_false, List.take_length])
  simpa [fR] using key
def gK (n : FeedNet) (s : FeedSection) (d : Int) (w : Bool) (k : Nat) : Int := (n.Stations[k]?.map fun st => if st.Takes = w then ZX s (k : Int) * YG (-d) else 0).getD 0
theorem Qfn (n : FeedNet) {s : FeedSection} (hs : JH s) {d : Int} (hd : -240000000 ≤ d ∧ d ≤ 240000000) (w : Bool) (k : Nat) : -240000000000 ≤ gK n s d w k ∧ gK n s d w k ≤ 240000000000 := by
  unfold gK
  cases n.Stations[k]? with
  | none => simp
  | some st =>
    have h1 := Qdl (a := ZX s (k : Int)) (b := YG (-d)) (m := 1000) (n := 240000000) (Qpl hs k) (by have := Qfp (x := -d) (c := 240000000) (by omega) (by omega); omega)
    simp only [Option.map_some, Option.getD_some]
    split <;> omega
theorem Qvn (n : FeedNet) (s : FeedSection) (d : Int) (w : Bool) {k : Nat} (hk : k < n.Stations.length) : gK n s d w k = if n.Stations[k].Takes = w then ZX s (k : Int) * YG (-d) else 0 := by
  unfold gK; rw [List.getElem?_eq_getElem hk]; rfl
theorem QCn {n : FeedNet} (hn : n.Stations.length ≤ 6) {s : FeedSection} (hs : JH s) {d : Int} (hd : -240000000 ≤ d ∧ d ≤ 240000000) {u b : Int} (hu : -1000000000000000000 ≤ u ∧ u ≤ 1000000000000000000) (hb : -1000000000000000000 ≤ b ∧ b ≤ 1000000000000000000) :
    loop (Qcw s n d) (0, u, b) = some (u + Q0 (gK n s d true) n.Stations.length, b + Q0 (gK n s d false) n.Stations.length) := by
  have key := Z8 (step := Qcw s n d) (o := (u + Q0 (gK n s d true) n.Stations.length, b + Q0 (gK n s d false) n.Stations.length)) (fun k => ((k : Int), u + Q0 (gK n s d true) k, b + Q0 (gK n s d false) k)) n.Stations.length (fun k hk => by
    have b1 := Y2 (fun j => Qfn n hs hd true j) k
    have b2 := Y2 (fun j => Qfn n hs hd false j) k
    have hm := Qdl (a := ZX s (k : Int)) (b := YG (-d)) (m := 1000) (n := 240000000) (Qpl hs k) (by have := Qfp (x := -d) (c := 240000000) (by omega) (by omega); omega)
    unfold Qcw
    simp only [X7 hk, cond_true, X0 hk, QF]
    rw [QEc hs, QF, Xy (x := 0 - d) (by omega), show (0 : Int) - d = -d by omega]
    have e1 : (if -d < 0 then 0 else -d) = YG (-d) := rfl
    rw [e1, Xy (x := ZX s (k : Int) * YG (-d)) (by omega), X6 k (by omega)]
    simp only [Q0, Qvn n s d _ hk]
    cases n.Stations[k].Takes with
    | true =>
      rw [cond_true, Xy (by omega), if_pos rfl, if_neg (by decide), Int.add_assoc, Int.add_zero]
    | false =>
      rw [cond_false, Xy (by omega), if_pos rfl, if_neg (by decide), Int.add_assoc, Int.add_zero]) (by
    unfold Qcw
    simp only [X8, cond_false])
  simpa [Q0] using key
end Go.Gw

end
section
set_option maxRecDepth 4096
namespace Go.Gw
open Go
/-! ### Lists, compared -/
def ZC : List Int → List Int → Int
  | [], [] => 0
  | [], _ :: _ => -1
  | _ :: _, [] => 1
  | x :: xs, y :: ys => if x < y then -1 else if y < x then 1 else ZC xs ys
theorem Qwa : ∀ {a b}, ZC a b = 0 → a = b
  | [], [], _ => rfl
  | [], _ :: _, h => by simp [ZC] at h
  | _ :: _, [], h => by simp [ZC] at h
  | x :: xs, y :: ys, h => by
    unfold ZC at h
    by_cases h1 : x < y
    · simp [h1] at h
    · by_cases h2 : y < x
      · simp [h1, h2] at h
      · simp only [h1, h2, if_false] at h
        rw [show x = y by omega, Qwa h]
theorem Qvz : ∀ a b, ZC a b = -ZC b a
  | [], [] => rfl
  | [], _ :: _ => rfl
  | _ :: _, [] => rfl
  | x :: xs, y :: ys => by
    unfold ZC
    by_cases h1 : x < y
    · have h2 : ¬ y < x := by omega
      simp [h1, h2]
    · by_cases h2 : y < x
      · simp [h1, h2]
      · simp only [h1, h2, if_false]; exact Qvz xs ys
theorem Qwb : ∀ {a b c}, ZC a b ≤ 0 → ZC b c ≤ 0 → ZC a c ≤ 0
  | [], _, [], _, _ => by simp [ZC]
  | [], _, _ :: _, _, _ => by simp [ZC]
  | _ :: _, [], _, h, _ => by simp [ZC] at h
  | _ :: _, _ :: _, [], _, h => by simp [ZC] at h
  | x :: xs, y :: ys, z :: zs, h1, h2 => by
    unfold ZC at h1 h2 ⊢
    by_cases a1 : x < y
    · by_cases b1 : y < z
      · rw [if_pos (by omega)]; omega
      · by_cases b2 : z < y
        · simp [b1, b2] at h2
        · rw [if_pos (by omega)]; omega
    · by_cases a2 : y < x
      · simp [a1, a2] at h1
      · obtain rfl : x = y := by omega
        simp only [a1, if_false] at h1
        by_cases b1 : x < z
        · rw [if_pos b1]; omega
        · by_cases b2 : z < x
          · simp [b1, b2] at h2
          · simp only [b1, b2, if_false] at h2 ⊢
            exact Qwb h1 h2
/-! ### Plans, compared -/
def pc (p o : feed_plan) : Int := if p.delay < o.delay then -1 else if o.delay < p.delay then 1 else ZC p.at_ o.at_
theorem QMq (p q : feed_plan) : pc p q = -pc q p := by
  unfold pc
  by_cases h1 : p.delay < q.delay
  · have h2 : ¬ q.delay < p.delay := by omega
    simp [h1, h2]
  · by_cases h2 : q.delay < p.delay
    · simp [h1, h2]
    · simp only [h1, h2, if_false]; exact Qvz _ _
theorem QMs {p q r : feed_plan} (h1 : pc p q ≤ 0) (h2 : pc q r ≤ 0) : pc p r ≤ 0 := by
  unfold pc at *
  by_cases a1 : p.delay < q.delay
  · by_cases b1 : q.delay < r.delay
    · rw [if_pos (by omega)]; omega
    · by_cases b2 : r.delay < q.delay
      · simp [b1, b2] at h2
      · rw [if_pos (by omega)]; omega
  · by_cases a2 : q.delay < p.delay
    · simp [a1, a2] at h1
    · simp only [a1, a2, if_false] at h1
      by_cases b1 : q.delay < r.delay
      · rw [if_pos (by omega)]; omega
      · by_cases b2 : r.delay < q.delay
        · simp [b1, b2] at h2
        · simp only [b1, b2, if_false] at h2
          rw [if_neg (by omega), if_neg (by omega)]
          exact Qwb h1 h2
theorem QMr {p q : feed_plan} (hp : p.found = true) (hq : q.found = true) (h : pc p q = 0) : p = q := by
  unfold pc at h
  by_cases h1 : p.delay < q.delay
  · simp [h1] at h
  · by_cases h2 : q.delay < p.delay
    · simp [h1, h2] at h
    · simp only [h1, h2, if_false] at h
      have h3 := Qwa h
      have h4 : p.delay = q.delay := by omega
      cases p; cases q
      simp only at hp hq h3 h4
      subst hp hq h3 h4
      rfl
def Bst (l : List feed_plan) (B : feed_plan) : Prop := ((∀ p ∈ l, p.found = false) ∧ B.found = false) ∨ (B ∈ l ∧ B.found = true ∧ ∀ q ∈ l, q.found = true → pc B q ≤ 0)
theorem Bst.found_eq {l : List feed_plan} {B B' : feed_plan} (h : Bst l B) (h' : Bst l B') : B.found = B'.found := by
  rcases h with ⟨h1, h2⟩ | ⟨h1, h2, h3⟩
  · rcases h' with ⟨k1, k2⟩ | ⟨k1, k2, k3⟩
    · rw [h2, k2]
    · have := h1 _ k1; rw [k2] at this; cases this
  · rcases h' with ⟨k1, k2⟩ | ⟨k1, k2, k3⟩
    · have := k1 _ h1; rw [h2] at this; cases this
    · rw [h2, k2]
theorem Bst.eq {l : List feed_plan} {B B' : feed_plan} (h : Bst l B) (h' : Bst l B') (hf : B.found = true) : B = B' := by
  have hf' := (h.found_eq h').symm.trans hf
  rcases h with ⟨h1, h2⟩ | ⟨h1, h2, h3⟩
  · rw [h2] at hf; cases hf
  · rcases h' with ⟨k1, k2⟩ | ⟨k1, k2, k3⟩
    · rw [k2] at hf'; cases hf'
    · refine QMr hf hf' ?_
      have a := h3 _ k1 hf'
      have b := k3 _ h1 hf
      rw [QMq] at b
      omega
theorem Bst.perm {l l' : List feed_plan} (hp : l'.Perm l) {B : feed_plan} (h : Bst l B) : Bst l' B := by
  rcases h with ⟨h1, h2⟩ | ⟨h1, h2, h3⟩
  · exact .inl ⟨fun p hm => h1 p (hp.subset hm), h2⟩
  · exact .inr ⟨hp.symm.subset h1, h2, fun q hq => h3 q (hp.subset hq)⟩
theorem Bst.flat {α : Type} {ks : List α} {f : α → List feed_plan} {g : α → feed_plan} (hg : ∀ k ∈ ks, Bst (f k) (g k)) {B : feed_plan} (h : Bst (ks.map g) B) : Bst (ks.flatMap f) B := by
  rcases h with ⟨h1, h2⟩ | ⟨h1, h2, h3⟩
  · refine .inl ⟨fun p hp => ?_, h2⟩
    obtain ⟨k, hk, hp⟩ := List.mem_flatMap.1 hp
    rcases hg k hk with ⟨a, _⟩ | ⟨_, a, _⟩
    · exact a p hp
    · rw [h1 _ (List.mem_map.2 ⟨k, hk, rfl⟩)] at a; cases a
  · obtain ⟨k, hk, rfl⟩ := List.mem_map.1 h1
    rcases hg k hk with ⟨_, a⟩ | ⟨a1, a2, a3⟩
    · rw [a] at h2; cases h2
    · refine .inr ⟨List.mem_flatMap.2 ⟨k, hk, a1⟩, h2, fun q hq hf => ?_⟩
      obtain ⟨j, hj, hq⟩ := List.mem_flatMap.1 hq
      rcases hg j hj with ⟨b, _⟩ | ⟨b1, b2, b3⟩
      · rw [b q hq] at hf; cases hf
      · exact QMs (h3 _ (List.mem_map.2 ⟨j, hj, rfl⟩) b2) (b3 q hq hf)
end Go.Gw

end
section
set_option maxRecDepth 4096
namespace Go.Gw
open Go
/-! ### Names are apart -/
theorem Qzy {α : Type} {p : α → Bool} : ∀ (l : List α) (k m : Nat) (hk : k < l.length), p l[k] = true → (l.take k).any p = false → X5 p (fun k _ => (k : Int)) m l = .inl ((m + k : Nat) : Int)
  | x :: xs, 0, m, _, hp, _ => by simp at hp; simp [X5, hp]
  | x :: xs, k + 1, m, hk, hp, ha => by
    simp only [List.take_succ_cons, List.any_cons, Bool.or_eq_false_iff] at ha
    simp only [X5, ha.1]
    have := Qzy xs k (m + 1) (by simpa using hk) (by simpa using hp) ha.2
    rw [← show m + 1 + k = m + (k + 1) by omega]
    simpa using this
theorem Qxi {n : FeedNet} (h : (ZT n).2 = 0) {k : Nat} (hk : k < n.Trains.length) : Yh n n.Trains[k].Name = (k : Int) := by
  have h0 : ZD n k = 0 := by
    unfold ZT at h
    split at h
    · cases h
    · split at h
      · cases h
      · rcases Qav (ZY n) n.Stations.length with ⟨a1, a2⟩ | ⟨i, a1, a2, a3, _⟩
        · rw [a1] at h
          rcases Qav (ZW n) n.Sections.length with ⟨b1, b2⟩ | ⟨i, b1, b2, b3, _⟩
          · rw [b1] at h
            rcases Qav (ZD n) n.Trains.length with ⟨c1, c2⟩ | ⟨i, c1, c2, c3, _⟩
            · exact c2 k hk
            · rw [c1] at h; exact absurd h c3
          · rw [b1] at h; exact absurd h b3
        · rw [a1] at h; exact absurd h a3
  rw [show ZD n k = trE n.Trains[k] ((n.Trains.take k).map (·.Name)) n.Sections.length from Jq _ _ _ hk] at h0
  unfold trE at h0
  split at h0
  · rename_i hc; exact absurd h0 hc
  · rename_i hc
    have hc : Js n.Trains[k].Name ((n.Trains.take k).map (·.Name)) = 0 := by
      rcases Decidable.em (Js n.Trains[k].Name ((n.Trains.take k).map (·.Name)) = 0) with h | h
      · exact h
      · exact absurd h hc
    unfold Js at hc
    split at hc
    · cases hc
    · split at hc
      · cases hc
      · rename_i ha
        rw [Qlp, Bool.not_eq_true] at ha
        unfold Yh
        rw [Qzy n.Trains k 0 hk (by simp) ha]
        simp
structure Trs (n : FeedNet) (ts : List FeedTrain) : Prop where
  ne : NetOk n
  ru : ∀ t ∈ ts, ∀ a : Int, Xc n (FeedDeparture.mk t.Name a) = feed_run.mk t a
  ok : ∀ t ∈ ts, J7 t n.Sections.length = 0
theorem QRo {n : FeedNet} (h : (ZT n).2 = 0) : Trs n n.Trains := by
  refine ⟨Qom h, fun t ht a => ?_, (Qom h).tr⟩
  obtain ⟨k, hk, rfl⟩ := List.mem_iff_getElem.1 ht
  unfold Xc
  simp only [Qxi h hk, Int.toNat_natCast, List.getElem?_eq_getElem hk, Option.getD_some]
theorem Trs.tail {n : FeedNet} {t : FeedTrain} {ts : List FeedTrain} (h : Trs n (t :: ts)) : Trs n ts := ⟨h.ne, fun x hx => h.ru x (List.mem_cons_of_mem _ hx), fun x hx => h.ok x (List.mem_cons_of_mem _ hx)⟩
end Go.Gw

end
section
set_option maxRecDepth 4096
namespace Go.Gw
open Go
/-! ### Departures that fit -/
def Fits : List FeedTrain → List FeedDeparture → Prop
  | [], [] => True
  | t :: ts, d :: ds => (d.Train = t.Name ∧ t.Earliest ≤ d.At ∧ d.At ≤ t.Latest) ∧ Fits ts ds
  | _, _ => False
theorem Fits.len : ∀ {ts : List FeedTrain} {r : List FeedDeparture}, Fits ts r → r.length = ts.length
  | [], [], _ => rfl
  | _ :: _, _ :: _, h => by simp [Fits.len h.2]
theorem Fits.get : ∀ {ts : List FeedTrain} {r : List FeedDeparture}, Fits ts r → ∀ k (hk : k < r.length) (hk2 : k < ts.length), r[k].Train = ts[k].Name ∧ ts[k].Earliest ≤ r[k].At ∧ r[k].At ≤ ts[k].Latest
  | [], [], _, k, hk, _ => by simp at hk
  | _ :: _, _ :: _, h, 0, _, _ => h.1
  | _ :: _, _ :: _, h, k + 1, hk, hk2 => Fits.get h.2 k (by simpa using hk) (by simpa using hk2)
theorem Fits.eq : ∀ {ts : List FeedTrain} {r s : List FeedDeparture}, Fits ts r → Fits ts s → r.map (·.At) = s.map (·.At) → r = s
  | [], [], [], _, _, _ => rfl
  | _ :: _, ⟨a, b⟩ :: r, ⟨c, d⟩ :: s, h1, h2, h => by
    simp only [List.map_cons, List.cons.injEq] at h
    have e1 := h1.1.1
    have e2 := h2.1.1
    simp only at e1 e2
    rw [Fits.eq h1.2 h2.2 h.2, e1, e2, h.1]
theorem Fits.rt {n : FeedNet} (h : (ZT n).2 = 0) (hs : n.Trains.length < 1000) {p : List FeedDeparture} (hp : Fits n.Trains p) : Rt n p := by
  have hT := QRo h
  refine ⟨hT.ne, hs, by rw [hp.len]; exact hT.ne.tr6, fun d hd => ?_⟩
  obtain ⟨k, hk, rfl⟩ := List.mem_iff_getElem.1 hd
  have hk2 : k < n.Trains.length := by rw [← hp.len]; exact hk
  have hg := hp.get k hk hk2
  have ht := QAz (hT.ok _ (List.getElem_mem hk2))
  have e : Xc n p[k] = feed_run.mk n.Trains[k] p[k].At := by
    rw [← hT.ru _ (List.getElem_mem hk2), ← hg.1]
  refine ⟨?_, by rw [hg.1, Qxi h hk2]; omega⟩
  rw [e]
  exact ⟨ht.2.2.2.2.2, ht.2.2.2.2.1, by show 0 ≤ p[k].At; omega, by show p[k].At ≤ 1000; omega⟩
end Go.Gw

end
section
set_option maxRecDepth 4096
namespace Go.Gw
open Go
def inW (w : FeedWindow) (t : Int) : Prop := w.Ticks.Lo ≤ t ∧ t ≤ w.Ticks.Hi
instance (w : FeedWindow) (t : Int) : Decidable (inW w t) := inferInstanceAs (Decidable (_ ∧ _))
section
variable {n : FeedNet} (hn : NetOk n) (w : FeedWindow)
include hn
variable (hs : 0 ≤ w.Station ∧ w.Station ≤ (n.Stations.length : Int) - 1) (ht : 0 ≤ w.Ticks.Lo ∧ w.Ticks.Lo ≤ w.Ticks.Hi ∧ w.Ticks.Hi ≤ 100000)
include hs ht
end
end Go.Gw

end
section
set_option maxRecDepth 4096
namespace Go.Gw
open Go
section
variable {n : FeedNet} (hn : NetOk n)
include hn
end
def JW (r : Range) : Int := if JB r.Lo ≠ 0 then 2 else if JB r.Hi ≠ 0 then 2 else if r.Lo ≤ r.Hi then 0 else 9
theorem Qdx (t : Int) : JB t = 0 ∨ JB t = 2 := by unfold JB; split <;> simp
theorem QEi (r : Range) : Qfh r = some (JW r) := by
  unfold Qfh JW
  rw [Qsd, QF, Qsd, QF, J8, QF, Qae _ (by simp), QF, QIt]
  rcases Qdx r.Lo with h1 | h1 <;> rcases Qdx r.Hi with h2 | h2 <;> by_cases h3 : r.Lo ≤ r.Hi <;> simp [h1, h2, h3]
theorem QNk (r : Range) : Qjp r = some (JW r) := by
  unfold Qjp JW
  rw [Qxs, QF, Qxs, show decide (r.Hi < r.Lo) = !decide (r.Lo ≤ r.Hi) by rw [← decide_not]; congr 1; exact propext (by omega)]
  rcases Qdx r.Lo with h1 | h1 <;> rcases Qdx r.Hi with h2 | h2 <;> by_cases h3 : r.Lo ≤ r.Hi <;> simp [h1, h2, h3]
theorem QAw {t : Int} (h : JB t = 0) : 0 ≤ t ∧ t ≤ 1012 := by
  unfold JB at h; split at h; assumption; cases h
theorem QAx {r : Range} (h : JW r = 0) : 0 ≤ r.Lo ∧ r.Lo ≤ r.Hi ∧ r.Hi ≤ 1012 := by
  have a : JB r.Lo = 0 := by
    rcases Qdx r.Lo with h1 | h1
    · exact h1
    · simp [JW, h1] at h
  have b : JB r.Hi = 0 := by
    rcases Qdx r.Hi with h1 | h1
    · exact h1
    · simp [JW, a, h1] at h
  have c : r.Lo ≤ r.Hi := by
    rcases Decidable.em (r.Lo ≤ r.Hi) with h1 | h1
    · exact h1
    · simp [JW, a, b, h1] at h
  have a1 := QAw a
  have b1 := QAw b
  omega
end Go.Gw

end
section
set_option maxRecDepth 4096
namespace Go.Gw
open Go
def gF (n : FeedNet) (P : Nat → Int) (j : Nat) : Int := (n.Sections[j]?.map fun s => 1000 * YG (Ze s (P j))).getD 0
def gL (n : FeedNet) (P : Nat → Int) (j : Nat) : Int := (n.Sections[j]?.map fun s => 1000 * s.Loss * ZL (P j)).getD 0
def gW (n : FeedNet) (w : Bool) (P : Nat → Int) (j : Nat) : Int := (n.Sections[j]?.map fun s => Q0 (gK n s (Ze s (P j)) w) n.Stations.length).getD 0
section
variable {n : FeedNet} (hn : NetOk n) {P : Nat → Int} (hP : ∀ j, -160000 ≤ P j ∧ P j ≤ 160000)
include hn hP
theorem Qdr {j : Nat} (hj : j < n.Sections.length) : JH n.Sections[j] := QOu (hn.sec _ (List.getElem_mem hj))
theorem Qfm (j : Nat) : -240000000000 ≤ gF n P j ∧ gF n P j ≤ 240000000000 := by
  unfold gF
  by_cases hj : j < n.Sections.length
  · rw [List.getElem?_eq_getElem hj]
    have h1 := Qen (Qdr hn hP hj) (hP j)
    have := Qfp (x := Ze n.Sections[j] (P j)) (c := 240000000) (by omega) h1.2
    simp only [Option.map_some, Option.getD_some]; omega
  · rw [List.getElem?_eq_none (Nat.le_of_not_lt hj)]; simp
theorem Qoj {j : Nat} (hj : j < n.Sections.length) : 0 ≤ 1000 * n.Sections[j].Loss ∧ 1000 * n.Sections[j].Loss ≤ 500000 ∧ -80000000000 ≤ 1000 * n.Sections[j].Loss * ZL (P j) ∧ 1000 * n.Sections[j].Loss * ZL (P j) ≤ 80000000000 := by
  obtain ⟨_, h1, h2⟩ := Qdr hn hP hj
  have h3 := QJw (hP j)
  have := Qdl (a := 1000 * n.Sections[j].Loss) (b := ZL (P j)) (m := 500000) (n := 160000) (by omega) (by omega)
  omega
theorem Qnz (j : Nat) : -80000000000 ≤ gL n P j ∧ gL n P j ≤ 80000000000 := by
  unfold gL
  by_cases hj : j < n.Sections.length
  · rw [List.getElem?_eq_getElem hj]
    exact (Qoj hn hP hj).2.2
  · rw [List.getElem?_eq_none (Nat.le_of_not_lt hj)]; simp
theorem Qdg (w : Bool) (j : Nat) : -1440000000000 ≤ gW n w P j ∧ gW n w P j ≤ 1440000000000 := by
  unfold gW
  by_cases hj : j < n.Sections.length
  · rw [List.getElem?_eq_getElem hj]
    have := Y2 (fun k => Qfn n (Qdr hn hP hj) (Qen (Qdr hn hP hj) (hP j)) w k) n.Stations.length
    have := hn.st6
    simp only [Option.map_some, Option.getD_some]; omega
  · rw [List.getElem?_eq_none (Nat.le_of_not_lt hj)]; simp
theorem QCo {f l u b : Int} (hf : -100000000000000000 ≤ f ∧ f ≤ 100000000000000000) (hl : -100000000000000000 ≤ l ∧ l ≤ 100000000000000000) (hu : -100000000000000000 ≤ u ∧ u ≤ 100000000000000000) (hb : -100000000000000000 ≤ b ∧ b ≤ 100000000000000000) :
    loop (Qcx n ((List.range n.Sections.length).map P)) (0, f, l, u, b) = some (f + Q0 (gF n P) n.Sections.length, l + Q0 (gL n P) n.Sections.length, u + Q0 (gW n true P) n.Sections.length, b + Q0 (gW n false P) n.Sections.length) := by
  have hlen : (((List.range n.Sections.length).map P).length : Int) = (n.Sections.length : Int) := by simp
  have h10 := hn.se10
  have key := Z8 (step := Qcx n ((List.range n.Sections.length).map P)) (o := (f + Q0 (gF n P) n.Sections.length, l + Q0 (gL n P) n.Sections.length, u + Q0 (gW n true P) n.Sections.length, b + Q0 (gW n false P) n.Sections.length))
    (fun k => ((k : Int), f + Q0 (gF n P) k, l + Q0 (gL n P) k, u + Q0 (gW n true P) k, b + Q0 (gW n false P) k)) n.Sections.length (fun k hk => by
    have b1 := Y2 (fun j => Qfm hn hP j) k
    have b2 := Y2 (fun j => Qnz hn hP j) k
    have b3 := Y2 (fun j => Qdg hn hP true j) k
    have b4 := Y2 (fun j => Qdg hn hP false j) k
    have c1 := Qfm hn hP k
    have c2 := Qoj hn hP hk
    have hs := Qdr hn hP hk
    have hd := Qen hs (hP k)
    have hPk := hP k
    have hidx : idx ((List.range n.Sections.length).map P) (k : Int) = some (P k) := by rw [X0?]; simp [hk]
    have eF : gF n P k = 1000 * YG (Ze n.Sections[k] (P k)) := by unfold gF; rw [List.getElem?_eq_getElem hk]; rfl
    have eL : gL n P k = 1000 * n.Sections[k].Loss * ZL (P k) := by unfold gL; rw [List.getElem?_eq_getElem hk]; rfl
    have eW : ∀ w, gW n w P k = Q0 (gK n n.Sections[k] (Ze n.Sections[k] (P k)) w) n.Stations.length := by intro w; unfold gW; rw [List.getElem?_eq_getElem hk]; rfl
    unfold Qcx
    simp only [hlen, X7 hk, cond_true, X0 hk, hidx, QF]
    rw [Qsb hs (hP k), QF, QCn hn.st6 hs hd (by omega) (by omega), QF, Xy (x := 0 - P k) (by omega), show (0 : Int) - P k = -P k by omega]
    have e1 : (1000 * if Ze n.Sections[k] (P k) < 0 then 0 else Ze n.Sections[k] (P k)) = gF n P k := eF.symm
    have e2 : (if P k < -P k then -P k else P k) = ZL (P k) := rfl
    rw [e1, e2, Xy (x := 1000 * n.Sections[k].Loss) (by omega), ← eL]
    rw [← eL] at c2
    rw [Xy (x := gF n P k) (by omega), Xy (x := gL n P k) (by omega), Xy (x := f + Q0 (gF n P) k + gF n P k) (by omega), Xy (x := l + Q0 (gL n P) k + gL n P k) (by omega), X6 k (by omega), ← eW, ← eW]
    simp only [Q0, Int.add_assoc]) (by
    unfold Qcx
    simp only [hlen, X8, cond_false])
  simpa [Q0] using key
end
def tk (n : FeedNet) (R : List feed_run) (lo : Int) : Nat → Nat → Int
  | 0, i => Q0 (gF n (X9 R (lo + (i : Int)))) n.Sections.length
  | 1, i => fR fU R (lo + (i : Int))
  | 2, i => fR fB R (lo + (i : Int))
  | 3, i => Q0 (gL n (X9 R (lo + (i : Int)))) n.Sections.length
  | 4, i => Q0 (gW n true (X9 R (lo + (i : Int)))) n.Sections.length
  | _, i => Q0 (gW n false (X9 R (lo + (i : Int)))) n.Sections.length
def Qct (n : FeedNet) (R : List feed_run) (lo : Int) (k : Nat) : FeedBook := FeedBook.mk (Q0 (tk n R lo 0) k) (Q0 (tk n R lo 1) k) (Q0 (tk n R lo 2) k) (Q0 (tk n R lo 3) k) (Q0 (tk n R lo 4) k) (Q0 (tk n R lo 5) k)
section
variable {n : FeedNet} (hn : NetOk n) {R : List feed_run} (hR : ∀ r ∈ R, Zb n.Sections.length r) (hl : R.length ≤ 8)
include hn hR hl
theorem Qox (t : Int) (j : Nat) : -160000 ≤ X9 R t j ∧ X9 R t j ≤ 160000 := by have := Qxq hR t j; omega
theorem QAy (lo : Int) (q i : Nat) : -14400000000000 ≤ tk n R lo q i ∧ tk n R lo q i ≤ 14400000000000 := by
  have h10 := hn.se10
  have hP := Qox hn hR hl (lo + (i : Int))
  unfold tk
  split
  · have := Y2 (fun j => Qfm hn hP j) n.Sections.length; omega
  · have := Qer (f := fU) (fun x h => Qes h) (lo + (i : Int)) hR; omega
  · have := Qer (f := fB) (fun x h => Qeq h) (lo + (i : Int)) hR; omega
  · have := Y2 (fun j => Qnz hn hP j) n.Sections.length; omega
  · have := Y2 (fun j => Qdg hn hP true j) n.Sections.length; omega
  · have := Y2 (fun j => Qdg hn hP false j) n.Sections.length; omega
theorem QCp (e : Int) {x : Range} (h0 : 0 ≤ x.Lo) (h1 : x.Lo ≤ x.Hi) (h2 : x.Hi ≤ 1012) :
    loop (Qcy n x (⟨n⟩, R, e)) (x.Lo, 0, 0, 0, 0, 0, 0) = some ((fun b : FeedBook => (b.Fed, b.Used, b.Braked, b.Lost, b.Back, b.Burned)) (Qct n R x.Lo (x.Hi - x.Lo + 1).toNat)) := by
  have key := Z8 (step := Qcy n x (⟨n⟩, R, e)) (o := (fun b : FeedBook => (b.Fed, b.Used, b.Braked, b.Lost, b.Back, b.Burned)) (Qct n R x.Lo (x.Hi - x.Lo + 1).toNat))
    (fun k => (x.Lo + (k : Int), Q0 (tk n R x.Lo 0) k, Q0 (tk n R x.Lo 1) k, Q0 (tk n R x.Lo 2) k, Q0 (tk n R x.Lo 3) k, Q0 (tk n R x.Lo 4) k, Q0 (tk n R x.Lo 5) k)) (x.Hi - x.Lo + 1).toNat (fun k hk => by
    have hb := fun q => Y2 (fun j => QAy hn hR hl x.Lo q j) k
    have b0 := hb 0
    have b1 := hb 1
    have b2 := hb 2
    have b3 := hb 3
    have b4 := hb 4
    have b5 := hb 5
    have hk2 : k ≤ 1012 := by omega
    unfold Qcy
    simp only []
    rw [decide_eq_true (show x.Lo + (k : Int) ≤ x.Hi by omega), cond_true, QCm _ e hR hl (by omega) (by omega) (by omega) (by omega), QF,
      show feed_net.mk (FeedNet.mk n.Stations n.Sections n.Trains) = feed_net.mk n from rfl, QMw (by have := hn.se10; omega) hl hR (by omega) (by omega), QF,
      QCo hn (Qox hn hR hl _) (by omega) (by omega) (by omega) (by omega), QF, Xy (x := x.Lo + (k : Int) + 1) (by omega), show x.Lo + (k : Int) + 1 = x.Lo + ((k + 1 : Nat) : Int) by omega]
    rfl) (by
    unfold Qcy
    simp only []
    rw [decide_eq_false (by omega), cond_false]
    rfl)
  simpa [Q0] using key
end
theorem QBo {n : FeedNet} (h : NetS n) (l : List FeedDeparture) (x : Range) : Qbv n l x = some (if JM n l ≠ 0 then (FeedBook.mk 0 0 0 0 0 0, JM n l) else if JW x ≠ 0 then (FeedBook.mk 0 0 0 0 0 0, JW x) else (Qct n (l.map (Xc n)) x.Lo (x.Hi - x.Lo + 1).toNat, 0)) := by
  unfold Qbv
  rw [QLy h, QF, QEi, QF, Qae _ (by simp), QF, QIs]
  by_cases hb : JM n l = 0
  · by_cases ht : JW x = 0
    · obtain ⟨hn, hl, hd⟩ := Qhi hb
      obtain ⟨h0, h1, h2⟩ := QAx ht
      simp only [hb, ht, ne_eq, not_true_eq_false, if_false, if_true, decide_true, Bool.not_true, cond_false]
      rw [QCp hn (fun r hr => by obtain ⟨d, hd2, rfl⟩ := List.mem_map.1 hr; exact (hd d hd2).1) (by rw [List.length_map]; omega) 0 h0 h1 h2]
      rfl
    · simp [hb, ht]
  · simp [hb]
end Go.Gw

end
