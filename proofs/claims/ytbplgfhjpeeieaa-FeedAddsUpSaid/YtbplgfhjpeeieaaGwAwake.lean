/- Laws of the walk. Condition: each theorem says its own. -/
import Derived.Test.YtbplgfhjpeeieaaGwTwin
import Derived.Test.YtbplgfhjpeeieaaGwPlan
import Derived.IntWalk
set_option linter.unusedVariables false
set_option linter.unusedSimpArgs false
set_option linter.unusedSectionVars false
section
set_option maxRecDepth 1000000
namespace Go.Gw
open Go
theorem QCm : Qwa 60 = some true := by decide +kernel
theorem QCl : Qin = some true := QJn _ QCm
end Go.Gw

end
section
set_option linter.unusedSectionVars false
namespace Go.Gw
open Go

theorem XJ {x : Int} (h : -9223372036854775808 ≤ x ∧ x ≤ 9223372036854775807) : w64 x = x := Go.IntWalk.i64_in x h

def Runs {α : Type} (e : Option α) (Q : α → Prop) : Prop := ∃ a, e = some a ∧ Q a

section
variable {α β σ μ : Type} {Q : α → Prop} {e e' : Option α}
theorem Runs.some {a : α} (h : Q a) : Runs (some a) Q := ⟨a, rfl, h⟩
theorem Runs.bind {e : Option β} {f : β → Option α} (h : Runs e fun b => Runs (f b) Q) : Runs (e.bind f) Q := by
  obtain ⟨b, rfl, a, ha, hq⟩ := h; exact ⟨a, ha, hq⟩
theorem Runs.mono {Q' : α → Prop} (h : Runs e Q) (hm : ∀ a, Q a → Q' a) : Runs e Q' := by obtain ⟨a, ha, hq⟩ := h; exact ⟨a, ha, hm _ hq⟩
theorem Runs.eq {a : α} (h : Runs e (· = a)) : e = .some a := by obtain ⟨b, hb, rfl⟩ := h; exact hb
theorem Runs.call {e : Option β} {f : β → Option α} {b : β} (h : e = .some b) (hq : Runs (f b) Q) : Runs (e.bind f) Q := by subst h; exact hq
theorem Runs.bif {b : Bool} (ht : b = true → Runs e Q) (hf : b = false → Runs e' Q) : Runs (bif b then e else e') Q := by
  cases b
  · exact hf rfl
  · exact ht rfl
theorem Runs.jl {b : α} {f : μ → Option α} (h : Q b) : Runs (jn0 (.inl b) f) Q := ⟨b, rfl, h⟩
theorem Runs.j {o : α ⊕ μ} {f : μ → Option α} (hl : ∀ b, o = .inl b → Q b) (hr : ∀ m, o = .inr m → Runs (f m) Q) : Runs (jn0 o f) Q := by
  cases o with
  | inl b => exact Runs.jl (hl b rfl)
  | inr m => exact hr m rfl

def Rnd (I : σ → Prop) (m : σ → Nat) (Q : β → Prop) (s : σ) : σ ⊕ β → Prop
  | .inl s' => I s' ∧ m s' < m s
  | .inr o => Q o
theorem Runs.loop {step : σ → Option (σ ⊕ β)} {s : σ} {Q : β → Prop} (I : σ → Prop) (m : σ → Nat) (h0 : I s) (h : ∀ s, I s → Runs (step s) (Rnd I m Q s)) : Runs (Gw.loop step s) Q := by
  generalize hk : m s = k
  induction k using Nat.strongRecOn generalizing s with
  | _ k ih =>
    obtain ⟨x, hx, hq⟩ := h s h0
    cases x with
    | inl s' =>
      rw [Qog hx]
      exact ih (m s') (by have := hq.2; omega) hq.1 rfl
    | inr o => rw [Qip hx]; exact ⟨o, rfl, hq⟩
theorem JK {step : σ → Option (σ ⊕ β)} {o : β} (S : Nat → σ) (n : Nat) (h : ∀ k, k < n → step (S k) = .some (.inl (S (k + 1)))) (he : step (S n) = .some (.inr o)) : Gw.loop step (S 0) = .some o := by
  have key : ∀ j k, j + k = n → Gw.loop step (S k) = .some o := by
    intro j
    induction j with
    | zero => intro k hk; obtain rfl : k = n := by omega
              exact Qip he
    | succ j ih => intro k hk; rw [Qog (h k (by omega))]; exact ih (k + 1) (by omega)
  exact key n 0 (by omega)

theorem Runs.idx {xs : List β} {i : Int} {f : β → Option α} (h0 : 0 ≤ i) (h1 : i < xs.length) (h : ∀ x, xs[i.toNat]? = .some x → Runs (f x) Q) : Runs ((Gw.idx xs i).bind f) Q := by
  have hl : i.toNat < xs.length := by omega
  have e : Gw.idx xs i = .some xs[i.toNat] := by unfold Gw.idx; rw [if_pos h0, List.getElem?_eq_getElem hl]
  exact Runs.call e (h _ (List.getElem?_eq_getElem hl))
theorem X5 {xs : List β} {k : Nat} (h : k < xs.length) : Gw.idx xs (k : Int) = .some xs[k] := by
  unfold Gw.idx; rw [if_pos (by omega), Int.toNat_natCast, List.getElem?_eq_getElem h]
theorem X5? {xs : List β} {k : Nat} : Gw.idx xs (k : Int) = xs[k]? := by
  unfold Gw.idx; rw [if_pos (by omega), Int.toNat_natCast]
theorem Qbd {xs ys : List β} (h : xs.length + ys.length ≤ 1073741824) : app xs ys = .some (xs ++ ys) := by unfold app; rw [if_pos h]
end
end Go.Gw

end
section
set_option linter.unusedSectionVars false
namespace Go.Gw
section
variable {α β γ σ ρ : Type}
def X2 (p : α → Bool) (res : Nat → α → ρ) : Nat → List α → ρ ⊕ Unit
  | _, [] => .inr ()
  | k, x :: xs => if p x then .inl (res k x) else X2 p res (k + 1) xs
theorem JL {step : Int → Option (Int ⊕ (ρ ⊕ Unit))} (xs : List α) (p : α → Bool) (res : Nat → α → ρ)
    (hs : ∀ k (hk : k < xs.length), step (k : Int) = (bif p xs[k] then some (.inr (.inl (res k xs[k]))) else some (.inl ((k + 1 : Nat) : Int))))
    (he : step (xs.length : Int) = some (.inr (.inr ()))) : loop step 0 = some (X2 p res 0 xs) := by
  have key : ∀ j k, j + k = xs.length → loop step (k : Int) = some (X2 p res k (xs.drop k)) := by
    intro j
    induction j with
    | zero =>
      intro k hk
      obtain rfl : k = xs.length := by omega
      rw [List.drop_length]
      exact Qip he
    | succ j ih =>
      intro k hk
      have hlt : k < xs.length := by omega
      rw [List.drop_eq_getElem_cons hlt]
      have := hs k hlt
      cases hp : p xs[k] with
      | true => rw [hp] at this; simp only [X2, hp, if_true]; exact Qip this
      | false => rw [hp] at this; simp only [X2, hp]; rw [Qog this]; exact ih (k + 1) (by omega)
  have := key xs.length 0 (by omega)
  simpa using this

def fld (f : Nat → γ → α → γ) : Nat → γ → List α → γ
  | _, a, [] => a
  | k, a, x :: xs => fld f (k + 1) (f k a x) xs
def rng (f : Nat → γ → γ) (a : γ) : Nat → γ
  | 0 => a
  | n + 1 => f n (rng f a n)
theorem Yk (k : Nat) (h : k < 4611686018427387904) : w64 ((k : Int) + 1) = ((k + 1 : Nat) : Int) := by rw [XJ (by omega)]; omega
theorem Yg {k n : Nat} (h : k < n) : decide ((k : Int) < (n : Int)) = true := by simp; omega
theorem Yh (n : Nat) : decide ((n : Int) < (n : Int)) = false := by simp
end
end Go.Gw

end
section
set_option maxRecDepth 4096
namespace Go.Gw
open Go

def Zh : List Int → Int
  | [] => 0
  | x :: xs => if x = 0 then Zh xs else x
theorem JY (l : List Int) (hl : l.length < 1073741824) : ZN l = some (Zh l) := by
  unfold ZN
  rw [JL l (fun x => !decide (x = 0)) (fun _ x => x)]
  · have key : ∀ (l : List Int) k, (jn0 (X2 (fun x => !decide (x = 0)) (fun _ x => x) k l) fun (_ : Unit) => some 0) = some (Zh l) := by
      intro l
      induction l with
      | nil => intro k; rfl
      | cons x xs ih =>
        intro k
        by_cases h : x = 0
        · simp [X2, Zh, h]; exact ih _
        · simp [X2, Zh, h, jn0]
    simpa using key l 0
  · intro k hk
    unfold Qhv
    rw [Yg hk, X5 hk, Yk k (by omega)]; rfl
  · unfold Qhv
    rw [Yh]; rfl
theorem J5 (b : Bool) (e : Int) : Yp b e = some (bif b then 0 else e) := by cases b <;> rfl
theorem Qan (n lo hi : Int) : Z3 n lo hi = some (decide (lo ≤ n) && decide (n ≤ hi)) := rfl
theorem Qas (n lo hi : Int) : Zb n lo hi = some (decide (lo ≤ n) && decide (n ≤ hi)) := rfl
theorem QPp (n m : Int) (h : 0 ≤ m) (h2 : m ≤ 9223372036854775807) : Qdp n m = some (decide (-m ≤ n) && decide (n ≤ m)) := by
  unfold Qdp
  rw [XJ (by omega), Qan, Int.zero_sub]; rfl
theorem Qjz {α : Type} (p : α → Bool) : ∀ (l : List α) (k : Nat), (jn0 (β := Int) (X2 p (fun k _ => (k : Int)) k l) fun (_ : Unit) => some (-1)) = some (match X2 p (fun k _ => (k : Int)) k l with | .inl i => i | .inr _ => -1)
  | l, k => by cases X2 p (fun k _ => (k : Int)) k l <;> rfl
theorem Qpr {α : Type} (p : α → Bool) : ∀ (l : List α) (k : Nat), decide (0 ≤ (match X2 p (fun k _ => (k : Int)) k l with | .inl i => i | .inr _ => (-1 : Int))) = l.any p
  | [], k => by simp [X2]
  | x :: xs, k => by
    by_cases h : p x = true
    · simp [X2, h]
    · simp only [X2, h, List.any_cons]
      have := Qpr p xs (k + 1)
      simpa [h] using this
theorem Qbn {α ρ : Type} {p : α → Bool} {res : Nat → α → ρ} : ∀ (l : List α) (k : Nat), (X2 p res k l = .inr () ∧ l.any p = false) ∨ ∃ j x, X2 p res k l = .inl (res j x) ∧ p x = true ∧ l.any p = true
  | [], k => .inl ⟨rfl, rfl⟩
  | x :: xs, k => by
    by_cases h : p x = true
    · exact .inr ⟨k, x, by simp [X2, h], h, by simp [h]⟩
    · rcases Qbn xs (k + 1) (p := p) (res := res) with ⟨h1, h2⟩ | ⟨j, y, h1, h2, h3⟩
      · exact .inl ⟨by simp [X2, h, h1], by simp [h, h2]⟩
      · exact .inr ⟨j, y, by simp [X2, h, h1], h2, by simp [h3]⟩
/-! ### Ladders -/
end Go.Gw

end
section
set_option maxRecDepth 4096
namespace Go.Gw
open Go
def X8 (f : Nat → Int) (n : Nat) : Option Nat := (List.range n).find? fun i => decide (f i ≠ 0)
theorem Qav (f : Nat → Int) (n : Nat) : (X8 f n = none ∧ ∀ j, j < n → f j = 0) ∨ ∃ i, X8 f n = some i ∧ i < n ∧ f i ≠ 0 ∧ ∀ j, j < i → f j = 0 := by
  cases h : X8 f n with
  | none =>
    refine .inl ⟨rfl, fun j hj => ?_⟩
    have := List.find?_eq_none.1 h j (List.mem_range.2 hj)
    simpa using this
  | some i =>
    right
    obtain ⟨h1, h2, h3⟩ := List.find?_range_eq_some.1 h
    exact ⟨i, rfl, List.mem_range.1 h2, by simpa using h1, fun j hj => by have := h3 j hj; simpa using this⟩
theorem Qab {σ ρ μ : Type} {step : σ → Option (σ ⊕ (ρ ⊕ μ))} (S : Nat → σ) (n : Nat) (f : Nat → Int) (res : Nat → Int → ρ) (o : μ)
    (hs : ∀ k, k < n → (∀ j, j < k → f j = 0) → step (S k) = if f k = 0 then some (.inl (S (k + 1))) else some (.inr (.inl (res k (f k))))) (he : (∀ j, j < n → f j = 0) → step (S n) = some (.inr (.inr o))) :
    loop step (S 0) = some (match X8 f n with | some i => .inl (res i (f i)) | none => .inr o) := by
  rcases Qav f n with ⟨h1, h2⟩ | ⟨i, h1, h2, h3, h4⟩
  · rw [h1]
    exact JK S n (fun k hk => by rw [hs k hk fun j hj => h2 j (by omega), if_pos (h2 k hk)]) (he h2)
  · rw [h1]
    exact JK S i (fun k hk => by rw [hs k (by omega) fun j hj => h4 j (by omega), if_pos (h4 k hk)]) (by rw [hs i h2 h4, if_neg h3])
/-! ### Names -/
def Qem (q : Int × Nat) : Bool := (!(((decide (97 ≤ q.1)) && (decide (q.1 ≤ 122))) || ((decide (65 ≤ q.1)) && (decide (q.1 ≤ 90))))) && ((decide ((q.2 : Int) = 0)) || ((!decide (q.1 = 45)) && ((decide (q.1 < 48)) || (decide (57 < q.1)))))
def bi (s : ByteArray) : List Int := bl s
theorem Qhd (s : ByteArray) : (bi s).length = s.size := Qbe s
theorem Qvt {s : ByteArray} {k : Nat} (h : k < (bi s).length) : idx (α := Int) (bl s) (k : Int) = some (bi s)[k] := X5 (xs := bi s) h
def Qbl (s : ByteArray) : Bool := decide (1 ≤ s.size) && (decide (s.size ≤ 12) && !((bi s).zipIdx.any Qem))
theorem Qzb (s : ByteArray) : s = ByteArray.mk #[] ↔ s.size = 0 := by
  constructor
  · intro h; subst h; rfl
  · intro h
    cases s with
    | mk d =>
      congr 1
      exact Array.eq_empty_of_size_eq_zero h
theorem Qqv (s : ByteArray) : Qen s = some (Qbl s) := by
  unfold Qen Qbl
  have hlen : (bi s).zipIdx.length = s.size := by rw [List.length_zipIdx, Qhd]
  by_cases h : 1 ≤ s.size ∧ s.size ≤ 12
  · have : (decide ((s.size : Int) < 1) || decide (12 < (s.size : Int))) = false := by
      rw [decide_eq_false (by omega), decide_eq_false (by omega)]; rfl
    rw [this, cond_false, JL (bi s).zipIdx Qem (fun _ _ => false), QJ]
    · rcases Qbn (p := Qem) (res := fun _ _ => false) (bi s).zipIdx 0 with ⟨k1, k2⟩ | ⟨j, x, k1, k2, k3⟩
      · rw [k1, k2]; simp [h, jn0]
      · rw [k1, k3]; simp [jn0]
    · intro k hk
      rw [hlen] at hk
      unfold Qln
      rw [Yg hk, cond_true, Qvt (show k < (bi s).length by rw [Qhd]; exact hk), QJ, Yk k (by omega)]
      simp only [List.getElem_zipIdx, Nat.zero_add]
      rfl
    · rw [hlen]
      unfold Qln
      rw [Yh]; rfl
  · have : (decide ((s.size : Int) < 1) || decide (12 < (s.size : Int))) = true := by
      by_cases h1 : s.size < 1
      · rw [decide_eq_true (by omega)]; rfl
      · rw [decide_eq_true (p := 12 < (s.size : Int)) (by omega)]; simp
    rw [this, cond_true]
    congr 1
    by_cases h1 : 1 ≤ s.size
    · rw [decide_eq_false (p := s.size ≤ 12) (by omega)]; simp
    · rw [decide_eq_false h1]; rfl
theorem QEj (s : ByteArray) (hs : s.size ≤ 1000) : Qey s = some (Qbl s) := by
  unfold Qey Qbl
  have hlen : (bi s).zipIdx.length = s.size := by rw [List.length_zipIdx, Qhd]
  have ht : tob s = some (bl s) := by unfold tob; rw [if_pos (by omega)]
  rw [ht, QJ, JL (bi s).zipIdx Qem (fun _ _ => false), QJ]
  · rcases Qbn (p := Qem) (res := fun _ _ => false) (bi s).zipIdx 0 with ⟨k1, k2⟩ | ⟨j, x, k1, k2, k3⟩
    · rw [k1, k2]
      simp only [jn0, Bool.not_false, Bool.and_true, Option.some.injEq]
      by_cases h0 : s.size = 0
      · rw [decide_eq_true ((Qzb s).2 h0), decide_eq_false (show ¬ 1 ≤ s.size by omega)]; rfl
      · rw [decide_eq_false (fun e => h0 ((Qzb s).1 e)), decide_eq_true (show 1 ≤ s.size by omega)]
        simp only [Bool.not_false, Bool.true_and]
        by_cases h1 : s.size ≤ 12
        · rw [decide_eq_true h1, decide_eq_true (by omega)]
        · rw [decide_eq_false h1, decide_eq_false (by omega)]
    · rw [k1, k3]; simp [jn0]
  · intro k hk
    rw [hlen] at hk
    have hk2 : k < (bl s).length := by rw [Qbe]; exact hk
    unfold Qhx
    rw [Yg hk2, cond_true, Qvt (show k < (bi s).length by rw [Qhd]; exact hk), QJ, Yk k (by omega)]
    simp only [List.getElem_zipIdx, Nat.zero_add]
    rfl
  · rw [hlen, show (s.size : Int) = ((bl s).length : Int) by rw [Qbe]]
    unfold Qhx
    rw [Yh]; rfl
theorem QDo (l : List ByteArray) (v : ByteArray) (hl : l.length < 1000000) : Qgd l v = some (l.any fun x => decide (v = x)) := by
  unfold Qgd Qjy
  rw [JL l (fun x => decide (v = x)) (fun k _ => (k : Int)), QJ, Qjz, QJ, Qpr]
  · intro k hk
    unfold Qjx
    rw [Yg hk, X5 hk, Yk k (by omega)]; rfl
  · unfold Qjx
    rw [Yh]; rfl
def Jq (s : ByteArray) (others : List ByteArray) : Int := if Qbl s = false then 4 else if (others.any fun x => decide (s = x)) = true then 5 else 0
theorem Qwp (s : ByteArray) (others : List ByteArray) (hs : s.size ≤ 1000) (hl : others.length < 1000000) : Qdj s others = some (Jq s others) := by
  unfold Qdj Jq
  rw [QEj s hs, QJ, J5, QJ, QDo _ _ hl, QJ, J5, QJ, JY _ (by simp), QJ]
  cases Qbl s <;> cases (others.any fun x => decide (s = x)) <;> simp [Zh]
end Go.Gw

end
section
set_option maxRecDepth 4096
namespace Go.Gw
open Go
theorem Qhe {α : Type} {c : Bool} {a b : α} : (bif c then some a else some b) = some (bif c then a else b) := by cases c <;> rfl
def Qpg (l r il ir eq sh lo s0 s1 : Bool) : Int := bif (!(l || il)) || !(r || ir) then 6 else bif l && r then 23 else bif eq then 26 else bif !(sh && lo) then 2 else bif (l && !s0) || (r && !s1) then 3 else 0
def ZC (s : FeedSection) (n : Nat) : Int := Qpg (decide (s.Left = -1)) (decide (s.Right = -1)) (decide (0 ≤ s.Left) && decide (s.Left ≤ (n : Int) - 1)) (decide (0 ≤ s.Right) && decide (s.Right ≤ (n : Int) - 1)) (decide (s.Left = s.Right))
  (decide (0 ≤ s.Share) && decide (s.Share ≤ 1000)) (decide (0 ≤ s.Loss) && decide (s.Loss ≤ 500)) (decide (s.Share = 0)) (decide (s.Share = 1000))
theorem QEn (s : FeedSection) (n : Nat) (hn : n < 1000) : Qfh s (n : Int) = some (ZC s n) := by
  unfold Qfh Qfg ZC
  rw [XJ (by omega)]
  simp only [J5, Qan, QJ, Qhe]
  rw [JY _ (by simp), QJ]
  congr 1
  generalize decide (s.Left = -1) = l
  generalize decide (s.Right = -1) = r
  generalize (decide (0 ≤ s.Left) && decide (s.Left ≤ (n : Int) - 1)) = il
  generalize (decide (0 ≤ s.Right) && decide (s.Right ≤ (n : Int) - 1)) = ir
  generalize decide (s.Left = s.Right) = eq
  generalize (decide (0 ≤ s.Share) && decide (s.Share ≤ 1000)) = sh
  generalize (decide (0 ≤ s.Loss) && decide (s.Loss ≤ 500)) = lo
  generalize decide (s.Share = 0) = s0
  generalize decide (s.Share = 1000) = s1
  revert l r il ir eq sh lo s0 s1
  decide +kernel
theorem QMw (m : FeedNet) (s : FeedSection) (hn : m.Stations.length < 1000) : Qjk m s = some (ZC s m.Stations.length) := by
  unfold Qjk Qjj ZC
  rw [XJ (by omega)]
  simp only [Qas, QJ, Qhe]
  congr 1
  generalize decide (s.Left = -1) = l
  generalize decide (s.Right = -1) = r
  generalize (decide (0 ≤ s.Left) && decide (s.Left ≤ (m.Stations.length : Int) - 1)) = il
  generalize (decide (0 ≤ s.Right) && decide (s.Right ≤ (m.Stations.length : Int) - 1)) = ir
  generalize decide (s.Left = s.Right) = eq
  generalize (decide (0 ≤ s.Share) && decide (s.Share ≤ 1000)) = sh
  generalize (decide (0 ≤ s.Loss) && decide (s.Loss ≤ 500)) = lo
  generalize decide (s.Share = 0) = s0
  generalize decide (s.Share = 1000) = s1
  revert l r il ir eq sh lo s0 s1
  decide +kernel
def Ju (s : FeedStep) (n : Nat) : Int := bif !(decide (0 ≤ s.Section) && decide (s.Section ≤ (n : Int) - 1)) then 6 else bif !(decide (-20000 ≤ s.Power) && decide (s.Power ≤ 20000)) then 2 else 0
def Qka (l : List FeedStep) (n : Nat) : Int := match X8 (fun i => (l[i]?.map (Ju · n)).getD 0) l.length with | some i => (l[i]?.map (Ju · n)).getD 0 | none => 0
def QBg (e1 e2 : Bool) (o : Bool) (z : Bool) (m : Bool) (st : Int) : Int := bif !(e1 && e2) then 2 else bif !o then 9 else bif !z then 10 else bif !m then 8 else st
def J4 (t : FeedTrain) (n : Nat) : Int := QBg (decide (0 ≤ t.Earliest) && decide (t.Earliest ≤ 1000)) (decide (0 ≤ t.Latest) && decide (t.Latest ≤ 1000)) (decide (t.Earliest ≤ t.Latest)) (decide (0 < (t.Steps.length : Int))) (decide ((t.Steps.length : Int) ≤ 12)) (Qka t.Steps n)
theorem Qnx (l : List FeedStep) (n k : Nat) (hk : k < l.length) : (l[k]?.map (Ju · n)).getD 0 = Ju l[k] n := by rw [List.getElem?_eq_getElem hk]; rfl
theorem QEr (t : FeedTrain) (n : Nat) (hn : n < 1000) (ht : t.Steps.length < 1000) : Qfk t (n : Int) = some (J4 t n) := by
  have key : loop (Qfj (n : Int) t) 0 = some (match X8 (fun i => (t.Steps[i]?.map (Ju · n)).getD 0) t.Steps.length with | some i => .inl ((t.Steps[i]?.map (Ju · n)).getD 0) | none => .inr ()) :=
    Qab (fun k => (k : Int)) t.Steps.length _ (fun _ e => e) () (fun k hk _ => by
      rw [Qnx _ _ _ hk]
      unfold Qfj Ju
      rw [Yg hk, cond_true, X5 hk, QJ, Yk k (by omega), XJ (by omega)]
      simp only [J5, Qan, QJ]
      rw [QPp _ _ (by omega) (by omega)]
      simp only [J5, QJ]
      rw [JY _ (by simp), QJ]
      generalize (decide (0 ≤ t.Steps[k].Section) && decide (t.Steps[k].Section ≤ (n : Int) - 1)) = a
      generalize (decide (-20000 ≤ t.Steps[k].Power) && decide (t.Steps[k].Power ≤ 20000)) = b
      cases a <;> cases b <;> rfl) (fun _ => by
      unfold Qfj
      rw [Yh]; rfl)
  unfold Qfk Qbx
  rw [key]
  unfold J4 Qka
  simp only [J5, Qan, QJ, Qhe]
  rw [JY _ (by simp), QJ]
  generalize (decide (0 ≤ t.Earliest) && decide (t.Earliest ≤ 1000)) = e1
  generalize (decide (0 ≤ t.Latest) && decide (t.Latest ≤ 1000)) = e2
  generalize decide (t.Earliest ≤ t.Latest) = o
  generalize decide (0 < (t.Steps.length : Int)) = z
  generalize decide ((t.Steps.length : Int) ≤ 12) = m
  cases X8 (fun i => (t.Steps[i]?.map (Ju · n)).getD 0) t.Steps.length with
  | none => cases e1 <;> cases e2 <;> cases o <;> cases z <;> cases m <;> rfl
  | some i => cases e1 <;> cases e2 <;> cases o <;> cases z <;> cases m <;> rfl
theorem QNa (m : FeedNet) (t : FeedTrain) (hn : m.Sections.length < 1000) (ht : t.Steps.length < 1000) : Qjm m t = some (J4 t m.Sections.length) := by
  have key : loop (Qjl m t) 0 = some (match X8 (fun i => (t.Steps[i]?.map (Ju · m.Sections.length)).getD 0) t.Steps.length with | some i => .inl ((t.Steps[i]?.map (Ju · m.Sections.length)).getD 0) | none => .inr ()) :=
    Qab (fun k => (k : Int)) t.Steps.length _ (fun _ e => e) () (fun k hk _ => by
      rw [Qnx _ _ _ hk]
      unfold Qjl Qoz Ju
      rw [Yg hk, cond_true, X5 hk, QJ, Yk k (by omega), XJ (by omega)]
      simp only [Qas, QJ]
      generalize (decide (0 ≤ t.Steps[k].Section) && decide (t.Steps[k].Section ≤ (m.Sections.length : Int) - 1)) = a
      generalize (decide (-20000 ≤ t.Steps[k].Power) && decide (t.Steps[k].Power ≤ 20000)) = b
      cases a <;> cases b <;> rfl) (fun _ => by
      unfold Qjl
      rw [Yh]; rfl)
  unfold Qjm
  rw [key]
  unfold J4 Qka
  simp only [Qas, QJ, Qhe]
  rw [show decide (t.Latest < t.Earliest) = !decide (t.Earliest ≤ t.Latest) by rw [← decide_not]; congr 1; exact propext (by omega),
    show decide ((t.Steps.length : Int) = 0) = !decide (0 < (t.Steps.length : Int)) by rw [← decide_not]; congr 1; exact propext (by omega),
    show decide (12 < (t.Steps.length : Int)) = !decide ((t.Steps.length : Int) ≤ 12) by rw [← decide_not]; congr 1; exact propext (by omega)]
  generalize (decide (0 ≤ t.Earliest) && decide (t.Earliest ≤ 1000)) = e1
  generalize (decide (0 ≤ t.Latest) && decide (t.Latest ≤ 1000)) = e2
  generalize decide (t.Earliest ≤ t.Latest) = o
  generalize decide (0 < (t.Steps.length : Int)) = z
  generalize decide ((t.Steps.length : Int) ≤ 12) = q
  cases X8 (fun i => (t.Steps[i]?.map (Ju · m.Sections.length)).getD 0) t.Steps.length with
  | none => cases e1 <;> cases e2 <;> cases o <;> cases z <;> cases q <;> rfl
  | some i => cases e1 <;> cases e2 <;> cases o <;> cases z <;> cases q <;> rfl
end Go.Gw

end
section
set_option maxRecDepth 4096
namespace Go.Gw
open Go
def stE (s : FeedStation) (others : List ByteArray) : Int := if Jq s.Name others ≠ 0 then Jq s.Name others else bif !(decide (0 ≤ s.Limit) && decide (s.Limit ≤ 100000)) then 2 else 0
def ZX (n : FeedNet) (i : Nat) : Int := (n.Stations[i]?.map fun s => stE s ((n.Stations.take i).map (·.Name))).getD 0
def ZW (n : FeedNet) (i : Nat) : Int := (n.Sections[i]?.map fun s => ZC s n.Stations.length).getD 0
def trE (t : FeedTrain) (others : List ByteArray) (n : Nat) : Int := if Jq t.Name others ≠ 0 then Jq t.Name others else J4 t n
def ZH (n : FeedNet) (i : Nat) : Int := (n.Trains[i]?.map fun t => trE t ((n.Trains.take i).map (·.Name)) n.Sections.length).getD 0
def ZT (n : FeedNet) : FeedMark × Int :=
  if n.Stations.length = 0 ∨ n.Sections.length = 0 then (FeedMark.mk 0 0, 10) else if 6 < n.Stations.length ∨ 10 < n.Sections.length ∨ 6 < n.Trains.length then (FeedMark.mk 0 0, 8) else
  match X8 (ZX n) n.Stations.length with
  | some i => (FeedMark.mk 1 i, ZX n i)
  | none => match X8 (ZW n) n.Sections.length with
    | some i => (FeedMark.mk 2 i, ZW n i)
    | none => match X8 (ZH n) n.Trains.length with
      | some i => (FeedMark.mk 3 i, ZH n i)
      | none => (FeedMark.mk 0 0, 0)
structure NetS (n : FeedNet) : Prop where
  st : n.Stations.length < 1000
  se : n.Sections.length < 1000
  tr : n.Trains.length < 1000
  sn : ∀ s ∈ n.Stations, s.Name.size ≤ 1000
  tn : ∀ t ∈ n.Trains, t.Name.size ≤ 1000 ∧ t.Steps.length < 1000
theorem Jn {α : Type} (l : List α) (f : α → Int) (k : Nat) (hk : k < l.length) : (l[k]?.map f).getD 0 = f l[k] := by rw [List.getElem?_eq_getElem hk]; rfl
theorem Qpz {α β : Type} (l : List α) (f : α → β) (k : Nat) (hk : k < l.length) : (l.take k).map f ++ [f l[k]] = (l.take (k + 1)).map f := by
  rw [List.take_add_one, List.getElem?_eq_getElem hk, List.map_append]; rfl
theorem Qns (a b : Int) : Zh [a, b] = if a ≠ 0 then a else b := by
  by_cases h : a = 0
  · by_cases h2 : b = 0 <;> simp [Zh, h, h2]
  · simp [Zh, h]
section
variable {n : FeedNet} (h : NetS n)
include h
theorem QEp : loop (Qeu n) (([] : List ByteArray), 0) = some (match X8 (ZX n) n.Stations.length with | some i => .inl (FeedMark.mk 1 i, ZX n i) | none => .inr ()) :=
  Qab (fun k => ((n.Stations.take k).map (·.Name), (k : Int))) n.Stations.length (ZX n) (fun i e => (FeedMark.mk 1 i, e)) () (fun k hk _ => by
    have hst := h.st
    have hs : ZX n k = stE n.Stations[k] ((n.Stations.take k).map (·.Name)) := Jn _ _ _ hk
    rw [hs]
    unfold Qeu stE
    simp only [Yg hk, cond_true, X5 hk, QJ]
    rw [Qwp _ _ (h.sn _ (List.getElem_mem hk)) (by simp; omega), QJ]
    simp only [Qan, J5, QJ]
    rw [JY _ (by simp), QJ, Qns]
    generalize (decide (0 ≤ n.Stations[k].Limit) && decide (n.Stations[k].Limit ≤ 100000)) = b
    by_cases h1 : Jq n.Stations[k].Name ((n.Stations.take k).map (·.Name)) = 0
    · simp only [h1, ne_eq, not_true_eq_false, if_false]
      cases b
      · rfl
      · simp only [cond_true, decide_true, Bool.not_true, cond_false, if_true]
        rw [Qbd (by simp; omega), QJ, Qpz n.Stations (·.Name) k hk, Yk k (by omega)]
    · simp only [ne_eq, h1, not_false_eq_true, if_true, decide_false, Bool.not_false, cond_true, if_false]) (fun _ => by
    unfold Qeu
    simp only [Yh]; rfl)
theorem QEo : loop (Qev n) 0 = some (match X8 (ZW n) n.Sections.length with | some i => .inl (FeedMark.mk 2 i, ZW n i) | none => .inr ()) :=
  Qab (fun k => (k : Int)) n.Sections.length (ZW n) (fun i e => (FeedMark.mk 2 i, e)) () (fun k hk _ => by
    have hse := h.se
    have hs : ZW n k = ZC n.Sections[k] n.Stations.length := Jn _ _ _ hk
    rw [hs]
    unfold Qev
    rw [Yg hk, cond_true, X5 hk, QJ, QEn _ _ h.st, QJ, Yk k (by omega)]
    by_cases h1 : ZC n.Sections[k] n.Stations.length = 0
    · simp [h1]
    · simp [h1]) (fun _ => by
    unfold Qev
    rw [Yh]; rfl)
theorem QEt : loop (Qew n) (([] : List ByteArray), 0) = some (match X8 (ZH n) n.Trains.length with | some i => .inl (FeedMark.mk 3 i, ZH n i) | none => .inr ()) :=
  Qab (fun k => ((n.Trains.take k).map (·.Name), (k : Int))) n.Trains.length (ZH n) (fun i e => (FeedMark.mk 3 i, e)) () (fun k hk _ => by
    have hst := h.tr
    have hs : ZH n k = trE n.Trains[k] ((n.Trains.take k).map (·.Name)) n.Sections.length := Jn _ _ _ hk
    rw [hs]
    unfold Qew trE
    simp only [Yg hk, cond_true, X5 hk, QJ]
    rw [Qwp _ _ (h.tn _ (List.getElem_mem hk)).1 (by simp; omega), QJ, QEr _ _ h.se (h.tn _ (List.getElem_mem hk)).2, QJ]
    rw [JY _ (by simp), QJ, Qns]
    by_cases h1 : Jq n.Trains[k].Name ((n.Trains.take k).map (·.Name)) = 0
    · simp only [h1, ne_eq, not_true_eq_false, if_false]
      by_cases h2 : J4 n.Trains[k] n.Sections.length = 0
      · simp only [h2, decide_true, Bool.not_true, cond_false, if_true]
        rw [Qbd (by simp; omega), QJ, Qpz n.Trains (·.Name) k hk, Yk k (by omega)]
      · simp [h2]
    · simp only [ne_eq, h1, not_false_eq_true, if_true, decide_false, Bool.not_false, cond_true, if_false]) (fun _ => by
    unfold Qew
    simp only [Yh]; rfl)
theorem QEh : Qex n = some (ZT n) := by
  unfold Qex ZT
  rw [QEp h, QEo h, QEt h]
  simp only [J5, QJ]
  rw [JY _ (by simp), QJ, Qns]
  by_cases h1 : n.Stations.length = 0 ∨ n.Sections.length = 0
  · rw [if_pos h1]
    have : (decide (0 < (n.Stations.length : Int)) && decide (0 < (n.Sections.length : Int))) = false := by
      rw [Bool.eq_false_iff]; intro e; simp at e; omega
    rw [this]; rfl
  · rw [if_neg h1]
    have : (decide (0 < (n.Stations.length : Int)) && decide (0 < (n.Sections.length : Int))) = true := by
      simp; omega
    rw [this]
    by_cases h2 : 6 < n.Stations.length ∨ 10 < n.Sections.length ∨ 6 < n.Trains.length
    · rw [if_pos h2]
      have : ((decide ((n.Stations.length : Int) ≤ 6) && decide ((n.Sections.length : Int) ≤ 10)) && decide ((n.Trains.length : Int) ≤ 6)) = false := by
        rw [Bool.eq_false_iff]; intro e; simp at e; omega
      rw [this]; rfl
    · rw [if_neg h2]
      have : ((decide ((n.Stations.length : Int) ≤ 6) && decide ((n.Sections.length : Int) ≤ 10)) && decide ((n.Trains.length : Int) ≤ 6)) = true := by
        simp; omega
      rw [this]
      cases X8 (ZX n) n.Stations.length with
      | some i => rfl
      | none =>
        cases X8 (ZW n) n.Sections.length with
        | some i => rfl
        | none =>
          cases X8 (ZH n) n.Trains.length with
          | some i => rfl
          | none => rfl
end
end Go.Gw

end
section
set_option maxRecDepth 4096
namespace Go.Gw
open Go
theorem QAh {α : Type} {p : α → Bool} : ∀ (l : List α) (k m : Nat) (hk : k < l.length), p l[k] = true → ∃ j : Nat, X2 p (fun k _ => (k : Int)) m l = .inl ((m + j : Nat) : Int) ∧ (j < k ↔ (l.take k).any p = true)
  | x :: xs, 0, m, _, hp => ⟨0, by simp at hp; simp [X2, hp], by simp⟩
  | x :: xs, k + 1, m, hk, hp => by
    by_cases hx : p x = true
    · exact ⟨0, by simp [X2, hx], by simp [hx]⟩
    · obtain ⟨j, h1, h2⟩ := QAh xs k (m + 1) (by simpa using hk) (by simpa using hp)
      refine ⟨j + 1, by simp only [X2, hx]; rw [← show m + 1 + j = m + (j + 1) by omega]; simpa using h1, ?_⟩
      simp only [List.take_succ_cons, List.any_cons, hx]
      rw [← (show ((l : Bool) → (false || l) = l) from fun l => by cases l <;> rfl) ((xs.take k).any p)] at h2
      constructor
      · intro h; simpa using h2.1 (by omega)
      · intro h; have := h2.2 (by simpa using h); omega
theorem Qlj {α : Type} (f : α → ByteArray) (l : List α) (s : ByteArray) : ((l.map f).any fun x => decide (s = x)) = l.any fun y => decide (f y = s) := by
  rw [List.any_map]
  congr 1
  funext y
  exact decide_eq_decide.2 eq_comm
def YB (n : FeedNet) (s : ByteArray) : Int := match X2 (fun t : FeedTrain => decide (t.Name = s)) (fun k _ => (k : Int)) 0 n.Trains with | .inl i => i | .inr _ => -1
theorem Qyc (n : FeedNet) (s : ByteArray) (h : n.Trains.length < 1000000) : Qfx n s = some (YB n s) := by
  unfold Qfx YB
  rw [JL n.Trains (fun t => decide (t.Name = s)) (fun k _ => (k : Int)), QJ, Qjz]
  all_goals first
    | (intro k hk; unfold Qoy; rw [Yg hk, cond_true, X5 hk, QJ, Yk k (by omega)])
    | (unfold Qoy; rw [Yh]; rfl)
    | rfl
section
variable {n : FeedNet} (h : NetS n)
include h
theorem QMz : loop (Qjd n) 0 = some (match X8 (ZX n) n.Stations.length with | some i => .inl (FeedMark.mk 1 i, ZX n i) | none => .inr ()) :=
  Qab (fun k => (k : Int)) n.Stations.length (ZX n) (fun i e => (FeedMark.mk 1 i, e)) () (fun k hk _ => by
    have hst := h.st
    have hs : ZX n k = stE n.Stations[k] ((n.Stations.take k).map (·.Name)) := Jn _ _ _ hk
    have hlen : (n.Stations.take k).length = k := by simp; omega
    have inner : loop (Qjc n (k : Int)) 0 = some (X2 (fun y : FeedStation => decide (y.Name = n.Stations[k].Name)) (fun _ _ => Sum.inr (α := Int) (Sum.inl (β := Unit) (FeedMark.mk 1 (k : Int), (5 : Int)))) 0 (n.Stations.take k)) :=
      JL (n.Stations.take k) _ _ (fun j hj => by
        rw [hlen] at hj
        unfold Qjc
        rw [Yg hj, cond_true, X5 (show j < n.Stations.length by omega), QJ, X5 hk, QJ, Yk j (by omega)]
        simp only [List.getElem_take]) (by
        rw [hlen]
        unfold Qjc
        rw [Yh]; rfl)
    rw [hs]
    unfold Qjd stE Jq
    rw [Yg hk, cond_true, X5 hk, QJ, Qqv, QJ, inner, Qlj]
    cases hn : Qbl n.Stations[k].Name
    · rfl
    · simp only [Bool.not_true, cond_false, QJ]
      rcases Qbn (p := fun y : FeedStation => decide (y.Name = n.Stations[k].Name)) (res := fun _ _ => Sum.inr (α := Int) (Sum.inl (β := Unit) (FeedMark.mk 1 (k : Int), (5 : Int)))) (n.Stations.take k) 0 with ⟨k1, k2⟩ | ⟨j, x, k1, k2, k3⟩
      · rw [k1, k2]
        simp only [jn0, QJ, Qas, Yk k (show k < 4611686018427387904 by omega)]
        generalize (decide (0 ≤ n.Stations[k].Limit) && decide (n.Stations[k].Limit ≤ 100000)) = b
        cases b <;> rfl
      · rw [k1, k3]; rfl) (fun _ => by
    unfold Qjd
    rw [Yh]; rfl)
theorem QMx : loop (Qje n) 0 = some (match X8 (ZW n) n.Sections.length with | some i => .inl (FeedMark.mk 2 i, ZW n i) | none => .inr ()) :=
  Qab (fun k => (k : Int)) n.Sections.length (ZW n) (fun i e => (FeedMark.mk 2 i, e)) () (fun k hk _ => by
    have hse := h.se
    have hs : ZW n k = ZC n.Sections[k] n.Stations.length := Jn _ _ _ hk
    rw [hs]
    unfold Qje
    rw [Yg hk, cond_true, X5 hk, QJ, QMw _ _ h.st, QJ, Yk k (by omega)]
    by_cases h1 : ZC n.Sections[k] n.Stations.length = 0
    · simp [h1]
    · simp [h1]) (fun _ => by
    unfold Qje
    rw [Yh]; rfl)
theorem QNb : loop (Qjf n) 0 = some (match X8 (ZH n) n.Trains.length with | some i => .inl (FeedMark.mk 3 i, ZH n i) | none => .inr ()) :=
  Qab (fun k => (k : Int)) n.Trains.length (ZH n) (fun i e => (FeedMark.mk 3 i, e)) () (fun k hk _ => by
    have hst := h.tr
    have hs : ZH n k = trE n.Trains[k] ((n.Trains.take k).map (·.Name)) n.Sections.length := Jn _ _ _ hk
    obtain ⟨j, hj1, hj2⟩ := QAh (p := fun t : FeedTrain => decide (t.Name = n.Trains[k].Name)) n.Trains k 0 hk (by simp)
    have ht : YB n n.Trains[k].Name = (j : Int) := by unfold YB; rw [hj1]; simp
    rw [hs]
    unfold Qjf trE Jq
    rw [Yg hk, cond_true, X5 hk, QJ, Qqv, QJ, Qlj]
    cases hn : Qbl n.Trains[k].Name
    · rfl
    · simp only [Bool.not_true, cond_false, QJ]
      rw [Qyc _ _ (by omega), ht, QJ, QNa _ _ h.se (h.tn _ (List.getElem_mem hk)).2, QJ, Yk k (by omega)]
      cases ha : (n.Trains.take k).any (fun t => decide (t.Name = n.Trains[k].Name)) with
      | true =>
        rw [decide_eq_true (show (j : Int) < k by have := hj2.2 ha; omega)]; rfl
      | false =>
        rw [decide_eq_false (show ¬ (j : Int) < k by intro e; have := hj2.1 (by omega); rw [ha] at this; cases this)]
        by_cases h2 : J4 n.Trains[k] n.Sections.length = 0
        · simp [h2]
        · simp [h2]) (fun _ => by
    unfold Qjf
    rw [Yh]; rfl)
theorem QMv : Qjg n = some (ZT n) := by
  unfold Qjg ZT
  rw [QMz h, QMx h, QNb h]
  by_cases h1 : n.Stations.length = 0 ∨ n.Sections.length = 0
  · rw [if_pos h1]
    have : (decide ((n.Stations.length : Int) = 0) || decide ((n.Sections.length : Int) = 0)) = true := by
      simp only [Bool.or_eq_true, decide_eq_true_eq]; omega
    rw [this]; rfl
  · rw [if_neg h1]
    have : (decide ((n.Stations.length : Int) = 0) || decide ((n.Sections.length : Int) = 0)) = false := by
      rw [decide_eq_false (by omega), decide_eq_false (by omega)]; rfl
    rw [this, cond_false]
    by_cases h2 : 6 < n.Stations.length ∨ 10 < n.Sections.length ∨ 6 < n.Trains.length
    · rw [if_pos h2]
      have : ((decide (6 < (n.Stations.length : Int)) || decide (10 < (n.Sections.length : Int))) || decide (6 < (n.Trains.length : Int))) = true := by
        simp only [Bool.or_eq_true, decide_eq_true_eq]; omega
      rw [this]; rfl
    · rw [if_neg h2]
      have : ((decide (6 < (n.Stations.length : Int)) || decide (10 < (n.Sections.length : Int))) || decide (6 < (n.Trains.length : Int))) = false := by
        rw [decide_eq_false (by omega), decide_eq_false (by omega), decide_eq_false (by omega)]; rfl
      rw [this, cond_false]
      cases X8 (ZX n) n.Stations.length with
      | some i => rfl
      | none =>
        cases X8 (ZW n) n.Sections.length with
        | some i => rfl
        | none =>
          cases X8 (ZH n) n.Trains.length with
          | some i => rfl
          | none => rfl
end
end Go.Gw

end
section
set_option maxRecDepth 4096
namespace Go.Gw
open Go
theorem Qrt (l : List FeedDeparture) (h : l.length < 1000000) : Qch l = some l := by
  unfold Qch; rw [Qbd (by simp; omega)]; rfl
theorem Qru {n : FeedNet} (h : NetS n) : Qbm n = some n := by
  have key : loop (Qjh n) (0, ([] : List FeedTrain)) = some n.Trains :=
    JK (fun k => ((k : Int), n.Trains.take k)) n.Trains.length (fun k hk => by
      have hst := h.tr
      have hsteps := (h.tn _ (List.getElem_mem hk)).2
      unfold Qjh
      simp only [Yg hk, cond_true, X5 hk, QJ]
      rw [Qbd (by simp; omega), QJ, Qbd (by simp; omega), QJ, Yk k (by omega), List.nil_append]
      congr 3
      rw [List.take_add_one, List.getElem?_eq_getElem hk]; rfl) (by
      unfold Qjh
      simp only [Yh, cond_false, List.take_length])
  unfold Qbm
  have h1 := h.st
  have h2 := h.se
  rw [Qbd (by simp; omega), Qbd (by simp; omega), key]
  rfl
def Qfl (n : FeedNet) : Bool := !(decide (8 < n.Stations.length) || decide (12 < n.Sections.length) || decide (8 < n.Trains.length)) && !(n.Stations.any fun s => decide (20 < (s.Name.size : Int))) && !(n.Trains.any fun t => decide (20 < (t.Name.size : Int)) || decide (14 < (t.Steps.length : Int)))
theorem QIw (n : FeedNet) : Qik n = some (Qfl n) := by
  unfold Qik Qfl
  by_cases h : 8 < n.Stations.length ∨ 12 < n.Sections.length ∨ 8 < n.Trains.length
  · have e1 : ((decide (8 < (n.Stations.length : Int)) || decide (12 < (n.Sections.length : Int))) || decide (8 < (n.Trains.length : Int))) = true := by
      simp only [Bool.or_eq_true, decide_eq_true_eq]; omega
    have e2 : (decide (8 < n.Stations.length) || decide (12 < n.Sections.length) || decide (8 < n.Trains.length)) = true := by
      simp only [Bool.or_eq_true, decide_eq_true_eq]; omega
    rw [e1, e2]; rfl
  · have e1 : ((decide (8 < (n.Stations.length : Int)) || decide (12 < (n.Sections.length : Int))) || decide (8 < (n.Trains.length : Int))) = false := by
      rw [decide_eq_false (by omega), decide_eq_false (by omega), decide_eq_false (by omega)]; rfl
    have e2 : (decide (8 < n.Stations.length) || decide (12 < n.Sections.length) || decide (8 < n.Trains.length)) = false := by
      rw [decide_eq_false (by omega), decide_eq_false (by omega), decide_eq_false (by omega)]; rfl
    rw [e1, e2, cond_false, JL n.Stations (fun s => decide (20 < (s.Name.size : Int))) (fun _ _ => false), QJ, JL n.Trains (fun t => decide (20 < (t.Name.size : Int)) || decide (14 < (t.Steps.length : Int))) (fun _ _ => false)]
    · rcases Qbn (p := fun s : FeedStation => decide (20 < (s.Name.size : Int))) (res := fun _ _ => false) n.Stations 0 with ⟨k1, k2⟩ | ⟨j, x, k1, k2, k3⟩
      · rw [k1, k2]
        rcases Qbn (p := fun t : FeedTrain => decide (20 < (t.Name.size : Int)) || decide (14 < (t.Steps.length : Int))) (res := fun _ _ => false) n.Trains 0 with ⟨k3, k4⟩ | ⟨j, x, k3, k4, k5⟩
        · rw [k3, k4]; rfl
        · rw [k3, k5]; rfl
      · rw [k1, k3]; rfl
    · intro k hk
      unfold Qob
      rw [Yg hk, cond_true, X5 hk, QJ, Yk k (by omega)]
      cases h1 : decide (20 < (n.Trains[k].Name.size : Int)) <;> simp
    · unfold Qob
      rw [Yh]; rfl
    · intro k hk
      unfold Qoa
      rw [Yg hk, cond_true, X5 hk, QJ, Yk k (by omega)]
    · unfold Qoa
      rw [Yh]; rfl
theorem QIv {n : FeedNet} (h : Qfl n = true) : NetS n := by
  unfold Qfl at h
  simp only [Bool.and_eq_true, Bool.not_eq_true', Bool.or_eq_false_iff, decide_eq_false_iff_not, List.any_eq_false] at h
  obtain ⟨⟨⟨⟨h1, h2⟩, h3⟩, h4⟩, h5⟩ := h
  refine ⟨by omega, by omega, by omega, fun s hs => ?_, fun t ht => ?_⟩
  · have := h4 s hs; simp at this; omega
  · have := h5 t ht; simp at this; omega
def Qgb (l : List FeedDeparture) : Bool := !(decide (8 < l.length)) && !(l.any fun d => decide (20 < (d.Train.size : Int)))
theorem QOf (l : List FeedDeparture) : Qio l = some (Qgb l) := by
  unfold Qio Qgb
  by_cases h : 8 < l.length
  · rw [decide_eq_true (show 8 < (l.length : Int) by omega), decide_eq_true h]; rfl
  · rw [decide_eq_false (show ¬ 8 < (l.length : Int) by omega), decide_eq_false h, cond_false, JL l (fun d => decide (20 < (d.Train.size : Int))) (fun _ _ => false)]
    · rcases Qbn (p := fun d : FeedDeparture => decide (20 < (d.Train.size : Int))) (res := fun _ _ => false) l 0 with ⟨k1, k2⟩ | ⟨j, x, k1, k2, k3⟩
      · rw [k1, k2]; rfl
      · rw [k1, k3]; rfl
    · intro k hk
      unfold Qod
      rw [Yg hk, cond_true, X5 hk, QJ, Yk k (by omega)]
    · unfold Qod
      rw [Yh]; rfl
theorem QOe {l : List FeedDeparture} (h : Qgb l = true) : l.length ≤ 8 := by
  unfold Qgb at h; simp at h; omega
end Go.Gw

end
section
set_option maxRecDepth 4096
namespace Go.Gw
open Go
def J6 (n : FeedNet) (d : FeedDeparture) (others : List FeedDeparture) : Int := if YB n d.Train < 0 then 6 else if (others.any fun o => decide (o.Train = d.Train)) = true then 26 else bif !(decide (0 ≤ d.At) && decide (d.At ≤ 1000)) then 2 else 0
def Ze (n : FeedNet) (l : List FeedDeparture) (i : Nat) : Int := (l[i]?.map fun d => J6 n d (l.take i)).getD 0
def X9 (n : FeedNet) (d : FeedDeparture) : feed_run := feed_run.mk (n.Trains[(YB n d.Train).toNat]?.getD default) d.At
theorem Qqg {n : FeedNet} {s : ByteArray} (h : 0 ≤ YB n s) : ∃ t, n.Trains[(YB n s).toNat]? = some t ∧ t.Name = s ∧ (YB n s).toNat < n.Trains.length := by
  have key : ∀ (l : List FeedTrain) (m : Nat), (X2 (fun t : FeedTrain => decide (t.Name = s)) (fun k _ => (k : Int)) m l = .inr ()) ∨ ∃ (j : Nat) (t : FeedTrain), X2 (fun t : FeedTrain => decide (t.Name = s)) (fun k _ => (k : Int)) m l = .inl ((m + j : Nat) : Int) ∧ l[j]? = some t ∧ t.Name = s := by
    intro l
    induction l with
    | nil => intro m; exact .inl rfl
    | cons x xs ih =>
      intro m
      by_cases hx : x.Name = s
      · exact .inr ⟨0, x, by simp [X2, hx], rfl, hx⟩
      · rcases ih (m + 1) with h1 | ⟨j, t, h1, h2, h3⟩
        · exact .inl (by simp [X2, hx, h1])
        · exact .inr ⟨j + 1, t, by simp only [X2, hx, decide_false]; rw [← show m + 1 + j = m + (j + 1) by omega]; simpa using h1, h2, h3⟩
  rcases key n.Trains 0 with h1 | ⟨j, t, h1, h2, h3⟩
  · unfold YB at h; rw [h1] at h; simp at h
  · have e : YB n s = (j : Int) := by unfold YB; rw [h1]; simp
    rw [e]
    exact ⟨t, by simpa using h2, h3, by simpa using (List.getElem?_eq_some_iff.1 h2).1⟩
theorem QEs (n : FeedNet) (s : ByteArray) (h : n.Trains.length < 1000000) : Qfd ⟨n⟩ s = some (YB n s) := by
  unfold Qfd Qju YB
  rw [JL n.Trains (fun t => decide (t.Name = s)) (fun k _ => (k : Int)), QJ, Qjz]
  · rfl
  · intro k hk
    unfold Qjt
    rw [Yg hk, cond_true, X5 hk, QJ, Yk k (by omega)]; rfl
  · unfold Qjt
    rw [Yh]; rfl
theorem QDe (l : List feed_run) (d : FeedDeparture) (hl : l.length < 1000000) : Qgc l d = some (l.any fun r => decide (r.FeedTrain.Name = d.Train)) := by
  unfold Qgc Qjw
  rw [JL l (fun r => decide (r.FeedTrain.Name = d.Train)) (fun k _ => (k : Int)), QJ, Qjz, QJ, Qpr]
  · intro k hk
    unfold Qjv
    rw [Yg hk, cond_true, X5 hk, QJ, Yk k (by omega)]; rfl
  · unfold Qjv
    rw [Yh]; rfl
theorem Qma {n : FeedNet} {d : FeedDeparture} {o : List FeedDeparture} (h : J6 n d o = 0) : 0 ≤ YB n d.Train := by
  unfold J6 at h
  split at h
  · cases h
  · omega
theorem QNv {n : FeedNet} (s : ByteArray) (l : List FeedDeparture) (h : ∀ d ∈ l, 0 ≤ YB n d.Train) : ((l.map (X9 n)).any fun r => decide (r.FeedTrain.Name = s)) = l.any fun d => decide (d.Train = s) := by
  rw [List.any_map]
  induction l with
  | nil => rfl
  | cons d l ih =>
    simp only [List.any_cons]
    rw [ih fun x hx => h x (List.mem_cons_of_mem _ hx)]
    congr 1
    obtain ⟨t, h1, h2, _⟩ := Qqg (h d (List.mem_cons_self ..))
    simp [X9, h1, h2]
theorem QIz (a b c : Int) : Zh [a, b, c] = if a ≠ 0 then a else if b ≠ 0 then b else c := by
  by_cases h : a = 0 <;> by_cases h2 : b = 0 <;> by_cases h3 : c = 0 <;> simp [Zh, h, h2, h3]
theorem QEm (n : FeedNet) (l : List FeedDeparture) (hn : n.Trains.length < 1000) : Qfc ⟨n⟩ l = some (if 6 < l.length then ([], 0, 8) else match X8 (Ze n l) l.length with | some i => ([], (i : Int), Ze n l i) | none => (l.map (X9 n), 0, 0)) := by
  unfold Qfc
  by_cases h6 : 6 < l.length
  · rw [decide_eq_true (show 6 < (l.length : Int) by omega), if_pos h6]; rfl
  · rw [decide_eq_false (show ¬ 6 < (l.length : Int) by omega), if_neg h6, cond_false]
    have key : loop (Qfb l ⟨n⟩) (([] : List feed_run), 0) = some (match X8 (Ze n l) l.length with | some i => .inl ([], (i : Int), Ze n l i) | none => .inr (l.map (X9 n))) :=
      Qab (fun k => ((l.take k).map (X9 n), (k : Int))) l.length (Ze n l) (fun i e => (([] : List feed_run), (i : Int), e)) (l.map (X9 n)) (fun k hk hpre => by
        have hs : Ze n l k = J6 n l[k] (l.take k) := Jn _ _ _ hk
        have hall : ∀ d ∈ l.take k, 0 ≤ YB n d.Train := fun d hd => by
          obtain ⟨j, hj, rfl⟩ := List.mem_iff_getElem.1 hd
          have hjk : j < k := by rw [List.length_take] at hj; omega
          have := hpre j hjk
          rw [show Ze n l j = J6 n l[j] (l.take j) from Jn _ _ _ (by omega)] at this
          rw [List.getElem_take]
          exact Qma this
        rw [hs]
        unfold Qfb
        simp only [Yg hk, cond_true, X5 hk, QJ]
        rw [QEs n _ (by omega), QJ, QDe _ _ (by simp; omega), QJ, QNv _ _ hall]
        unfold Qbx
        simp only [J5, Qan, QJ]
        rw [JY _ (by simp), QJ, QIz]
        unfold J6
        generalize (decide (0 ≤ l[k].At) && decide (l[k].At ≤ 1000)) = b
        generalize ((l.take k).any fun d => decide (d.Train = l[k].Train)) = tw
        by_cases ht : YB n l[k].Train < 0
        · rw [decide_eq_false (show ¬ 0 ≤ YB n l[k].Train by omega)]
          simp [ht]
        · rw [decide_eq_true (show 0 ≤ YB n l[k].Train by omega), if_neg ht]
          cases tw
          · cases b
            · rfl
            · simp only [cond_true, Bool.not_false, Bool.not_true, cond_false, ne_eq, not_true_eq_false, if_false, decide_true]
              obtain ⟨t, h1, h2, h3⟩ := Qqg (show 0 ≤ YB n l[k].Train by omega)
              have hidx : idx n.Trains (YB n l[k].Train) = some t := by unfold idx; rw [if_pos (by omega)]; exact h1
              rw [hidx, QJ, Qbd (by simp; omega), QJ, Yk k (by omega)]
              have : feed_run.mk t l[k].At = X9 n l[k] := by unfold X9; rw [h1]; rfl
              rw [this, Qpz l (X9 n) k hk]
              rfl
          · rfl) (fun _ => by
        unfold Qfb
        simp only [Yh, cond_false, List.take_length])
    rw [key, QJ]
    cases X8 (Ze n l) l.length <;> rfl
theorem QMu (n : FeedNet) (l : List FeedDeparture) (hn : n.Trains.length < 1000) : Qjb n l = some (if 6 < l.length then (0, 8) else match X8 (Ze n l) l.length with | some i => ((i : Int), Ze n l i) | none => (0, 0)) := by
  unfold Qjb
  by_cases h6 : 6 < l.length
  · rw [decide_eq_true (show 6 < (l.length : Int) by omega), if_pos h6]; rfl
  · rw [decide_eq_false (show ¬ 6 < (l.length : Int) by omega), if_neg h6, cond_false]
    have key : loop (Qja l n) 0 = some (match X8 (Ze n l) l.length with | some i => .inl ((i : Int), Ze n l i) | none => .inr ()) :=
      Qab (fun k => (k : Int)) l.length (Ze n l) (fun i e => ((i : Int), e)) () (fun k hk _ => by
        have hs : Ze n l k = J6 n l[k] (l.take k) := Jn _ _ _ hk
        have hlen : (l.take k).length = k := by simp; omega
        have inner : loop (Qiz l (k : Int)) 0 = some (X2 (fun y : FeedDeparture => decide (y.Train = l[k].Train)) (fun _ _ => Sum.inr (α := Int) (Sum.inl (β := Unit) ((k : Int), (26 : Int)))) 0 (l.take k)) :=
          JL (l.take k) _ _ (fun j hj => by
            rw [hlen] at hj
            unfold Qiz
            rw [Yg hj, cond_true, X5 (show j < l.length by omega), QJ, X5 hk, QJ, Yk j (by omega)]
            simp only [List.getElem_take]) (by
            rw [hlen]
            unfold Qiz
            rw [Yh]; rfl)
        rw [hs]
        unfold Qja J6
        rw [Yg hk, cond_true, X5 hk, QJ, Qyc _ _ (by omega), QJ, inner]
        by_cases ht : YB n l[k].Train < 0
        · rw [decide_eq_true ht, if_pos ht]; rfl
        · rw [decide_eq_false ht, if_neg ht, cond_false, QJ]
          rcases Qbn (p := fun y : FeedDeparture => decide (y.Train = l[k].Train)) (res := fun _ _ => Sum.inr (α := Int) (Sum.inl (β := Unit) ((k : Int), (26 : Int)))) (l.take k) 0 with ⟨k1, k2⟩ | ⟨j, x, k1, k2, k3⟩
          · rw [k1, k2]
            simp only [jn0, QJ, Qas, Yk k (show k < 4611686018427387904 by omega)]
            generalize (decide (0 ≤ l[k].At) && decide (l[k].At ≤ 1000)) = b
            cases b <;> rfl
          · rw [k1, k3]; rfl) (fun _ => by
        unfold Qja
        rw [Yh]; rfl)
    rw [key, QJ]
    cases X8 (Ze n l) l.length <;> rfl
end Go.Gw

end
section
set_option maxRecDepth 4096
namespace Go.Gw
open Go
/-! ### The greatest common divisor -/
/-! ### Sums -/
theorem QAl {c : Int} (hc : 0 ≤ c) : ∀ {l : List Int}, (∀ x ∈ l, -c ≤ x ∧ x ≤ c) → -(c * l.length) ≤ l.sum ∧ l.sum ≤ c * l.length
  | [], _ => by simp
  | x :: l, h => by
    have h1 := h x (List.mem_cons_self ..)
    have h2 := QAl hc (l := l) fun y hy => h y (List.mem_cons_of_mem _ hy)
    simp only [List.sum_cons, List.length_cons]
    have : c * ((l.length + 1 : Nat) : Int) = c * l.length + c := by rw [Int.natCast_add, Int.mul_add]; simp
    rw [this]
    omega
end Go.Gw

end
section
set_option maxRecDepth 4096
namespace Go.Gw
open Go
def Z1 (st : List FeedStep) (k : Int) (s : Nat) : Int := if 0 ≤ k ∧ k ≤ (st.length : Int) - 1 then (match st[k.toNat]? with | some x => if x.Section = (s : Int) then x.Power else 0 | none => 0) else 0
def Q7 (l : List feed_run) (t : Int) (s : Nat) : Int := (l.map fun r => Z1 r.FeedTrain.Steps (t - r.at_) s).sum
def YV (m : Nat) (r : feed_run) : Prop := (∀ x ∈ r.FeedTrain.Steps, 0 ≤ x.Section ∧ x.Section ≤ (m : Int) - 1 ∧ -20000 ≤ x.Power ∧ x.Power ≤ 20000) ∧ r.FeedTrain.Steps.length ≤ 12 ∧ 0 ≤ r.at_ ∧ r.at_ ≤ 1000
theorem QDq {m : Nat} {r : feed_run} (h : YV m r) (k : Int) (s : Nat) : -20000 ≤ Z1 r.FeedTrain.Steps k s ∧ Z1 r.FeedTrain.Steps k s ≤ 20000 := by
  unfold Z1
  split
  · split
    · rename_i x hx
      have := h.1 x (List.mem_of_getElem? hx)
      split <;> omega
    · omega
  · omega
theorem Qov {m : Nat} {l : List feed_run} (h : ∀ r ∈ l, YV m r) (t : Int) (s : Nat) : -(20000 * (l.length : Int)) ≤ Q7 l t s ∧ Q7 l t s ≤ 20000 * (l.length : Int) := by
  have := QAl (c := 20000) (by omega) (l := l.map fun r => Z1 r.FeedTrain.Steps (t - r.at_) s) fun x hx => by
    obtain ⟨r, hr, rfl⟩ := List.mem_map.1 hx
    exact QDq (h r hr) _ _
  simpa [Q7] using this
theorem Qow {l : List feed_run} {t : Int} {s k : Nat} (hk : k < l.length) : Q7 (l.take (k + 1)) t s = Q7 (l.take k) t s + Z1 l[k].FeedTrain.Steps (t - l[k].at_) s := by
  unfold Q7
  rw [List.take_add_one, List.getElem?_eq_getElem hk, List.map_append, List.sum_append]
  simp
theorem QOd {m : Nat} {f g : Nat → Int} {s : Nat} (hs : s < m) (hv : ∀ i, i ≠ s → g i = f i) : ((List.range m).map f).set s (g s) = (List.range m).map g := by
  apply List.ext_getElem?
  intro i
  by_cases hi : i = s
  · subst hi
    rw [List.getElem?_set_self (by simpa using hs)]
    simp [hs]
  · rw [List.getElem?_set_ne (Ne.symm hi)]
    by_cases him : i < m
    · simp [him, hv i hi]
    · simp [him]
theorem Qwk (m : Nat) (h : m < 1000) : mk (m : Int) (0 : Int) = some ((List.range m).map fun _ => (0 : Int)) := by
  unfold mk
  rw [if_pos (by omega)]
  congr 1
  apply List.ext_getElem?
  intro i
  by_cases hi : i < m <;> simp [hi]
theorem QPt {m : Nat} {r : feed_run} (h : YV m r) {t : Int} (ht : 0 ≤ t) (ht2 : t ≤ 100000) :
    ∃ o, Qbg r t = some o ∧ ((o.2 = false ∧ ∀ s, Z1 r.FeedTrain.Steps (t - r.at_) s = 0) ∨ (o.2 = true ∧ 0 ≤ o.1.Section ∧ o.1.Section ≤ (m : Int) - 1 ∧ -20000 ≤ o.1.Power ∧ o.1.Power ≤ 20000 ∧ ∀ s : Nat, Z1 r.FeedTrain.Steps (t - r.at_) s = if o.1.Section = (s : Int) then o.1.Power else 0)) := by
  obtain ⟨h1, h2, h3, h4⟩ := h
  unfold Qbg
  rw [XJ (by omega), XJ (by omega), Qan, QJ]
  by_cases hin : 0 ≤ t - r.at_ ∧ t - r.at_ ≤ (r.FeedTrain.Steps.length : Int) - 1
  · have e : (decide (0 ≤ t - r.at_) && decide (t - r.at_ ≤ (r.FeedTrain.Steps.length : Int) - 1)) = true := by
      rw [decide_eq_true hin.1, decide_eq_true hin.2]; rfl
    have hk : (t - r.at_).toNat < r.FeedTrain.Steps.length := by omega
    have hidx : idx r.FeedTrain.Steps (t - r.at_) = some r.FeedTrain.Steps[(t - r.at_).toNat] := by
      unfold idx; rw [if_pos hin.1, List.getElem?_eq_getElem hk]
    rw [e]
    simp only [Bool.not_true, cond_false]
    rw [hidx, QJ]
    have hb := h1 _ (List.getElem_mem hk)
    refine ⟨_, rfl, .inr ⟨rfl, hb.1, hb.2.1, hb.2.2.1, hb.2.2.2, fun s => ?_⟩⟩
    unfold Z1
    rw [if_pos hin, List.getElem?_eq_getElem hk]
  · have e : (decide (0 ≤ t - r.at_) && decide (t - r.at_ ≤ (r.FeedTrain.Steps.length : Int) - 1)) = false := by
      rw [Bool.eq_false_iff]; intro e; simp at e; exact hin (by omega)
    rw [e]
    exact ⟨_, rfl, .inl ⟨rfl, fun s => by unfold Z1; rw [if_neg hin]⟩⟩
theorem Qxz {n : FeedNet} {l : List feed_run} (hn : n.Sections.length < 1000) (hl : l.length ≤ 8) (h : ∀ r ∈ l, YV n.Sections.length r) {t : Int} (ht : 0 ≤ t) (ht2 : t ≤ 100000) :
    Qdm ⟨n⟩ l t = some ((List.range n.Sections.length).map (Q7 l t)) := by
  have key : loop (Qfa l t) ((List.range n.Sections.length).map (fun _ => (0 : Int)), 0) = some ((List.range n.Sections.length).map (Q7 l t)) :=
    JK (fun k => ((List.range n.Sections.length).map (Q7 (l.take k) t), (k : Int))) l.length (fun k hk => by
      obtain ⟨o, ho, hc⟩ := QPt (h _ (List.getElem_mem hk)) ht ht2
      unfold Qfa
      simp only [Yg hk, cond_true, X5 hk, QJ, ho]
      rw [Yk k (by omega)]
      rcases hc with ⟨h1, h2⟩ | ⟨h1, h2, h3, h4, h5, h6⟩
      · rw [h1, cond_false]
        congr 3
        apply List.map_congr_left
        intro s _
        rw [Qow hk, h2 s]; simp
      · rw [h1, cond_true]
        have hs : o.1.Section.toNat < n.Sections.length := by omega
        have hsi : ((o.1.Section.toNat : Nat) : Int) = o.1.Section := by omega
        have hidx : idx ((List.range n.Sections.length).map (Q7 (l.take k) t)) o.1.Section = some (Q7 (l.take k) t o.1.Section.toNat) := by
          unfold idx; rw [if_pos h2]; simp [hs]
        have hb := Qov (l := l.take k) (fun r hr => h r (List.mem_of_mem_take hr)) t o.1.Section.toNat
        have hlen : (l.take k).length ≤ 8 := by rw [List.length_take]; omega
        have hnew : w64 (Q7 (l.take k) t o.1.Section.toNat + o.1.Power) = Q7 (l.take (k + 1)) t o.1.Section.toNat := by
          rw [Qow hk, h6, if_pos (by omega)]; exact XJ (by omega)
        rw [hidx, QJ, QJ, hnew, QOd (f := Q7 (l.take k) t) (g := Q7 (l.take (k + 1)) t) hs (fun i hi => by rw [Qow hk, h6, if_neg (by omega)]; simp)]) (by
      unfold Qfa
      simp only [Yh, cond_false, List.take_length])
  unfold Qdm
  rw [Qwk _ hn, QJ, key]; rfl
end Go.Gw

end
section
set_option maxRecDepth 4096
namespace Go.Gw
open Go
structure NetOk (n : FeedNet) : Prop where
  st0 : 0 < n.Stations.length
  st6 : n.Stations.length ≤ 6
  se0 : 0 < n.Sections.length
  se10 : n.Sections.length ≤ 10
  tr6 : n.Trains.length ≤ 6
  lim : ∀ s ∈ n.Stations, 0 ≤ s.Limit ∧ s.Limit ≤ 100000
  sec : ∀ s ∈ n.Sections, ZC s n.Stations.length = 0
  tr : ∀ t ∈ n.Trains, J4 t n.Sections.length = 0
theorem Qvn {f : Nat → Int} {n : Nat} (h : (match X8 f n with | some i => f i | none => 0) = 0) : ∀ j, j < n → f j = 0 := by
  rcases Qav f n with ⟨h1, h2⟩ | ⟨i, h1, h2, h3, h4⟩
  · exact h2
  · rw [h1] at h; exact absurd h h3
theorem Qoj {n : FeedNet} (h : (ZT n).2 = 0) : NetOk n := by
  unfold ZT at h
  split at h
  · cases h
  · rename_i h1
    split at h
    · cases h
    · rename_i h2
      rcases Qav (ZX n) n.Stations.length with ⟨a1, a2⟩ | ⟨i, a1, a2, a3, _⟩
      · rw [a1] at h
        rcases Qav (ZW n) n.Sections.length with ⟨b1, b2⟩ | ⟨i, b1, b2, b3, _⟩
        · rw [b1] at h
          rcases Qav (ZH n) n.Trains.length with ⟨c1, c2⟩ | ⟨i, c1, c2, c3, _⟩
          · refine ⟨by omega, by omega, by omega, by omega, by omega, fun s hs => ?_, fun s hs => ?_, fun t ht => ?_⟩
            · obtain ⟨k, hk, rfl⟩ := List.mem_iff_getElem.1 hs
              have := a2 k hk
              rw [show ZX n k = stE n.Stations[k] ((n.Stations.take k).map (·.Name)) from Jn _ _ _ hk] at this
              unfold stE at this
              split at this
              · rename_i hc; exact absurd this hc
              · cases hb : (decide (0 ≤ n.Stations[k].Limit) && decide (n.Stations[k].Limit ≤ 100000)) with
                | true => simpa using hb
                | false => rw [hb] at this; cases this
            · obtain ⟨k, hk, rfl⟩ := List.mem_iff_getElem.1 hs
              have := b2 k hk
              rwa [show ZW n k = ZC n.Sections[k] n.Stations.length from Jn _ _ _ hk] at this
            · obtain ⟨k, hk, rfl⟩ := List.mem_iff_getElem.1 ht
              have := c2 k hk
              rw [show ZH n k = trE n.Trains[k] ((n.Trains.take k).map (·.Name)) n.Sections.length from Jn _ _ _ hk] at this
              unfold trE at this
              split at this
              · rename_i hc; exact absurd this hc
              · exact this
          · rw [c1] at h; exact absurd h c3
        · rw [b1] at h; exact absurd h b3
      · rw [a1] at h; exact absurd h a3
theorem QBf {t : FeedTrain} {m : Nat} (h : J4 t m = 0) : (0 ≤ t.Earliest ∧ t.Earliest ≤ 1000) ∧ (0 ≤ t.Latest ∧ t.Latest ≤ 1000) ∧ t.Earliest ≤ t.Latest ∧ 0 < t.Steps.length ∧ t.Steps.length ≤ 12 ∧ ∀ x ∈ t.Steps, 0 ≤ x.Section ∧ x.Section ≤ (m : Int) - 1 ∧ -20000 ≤ x.Power ∧ x.Power ≤ 20000 := by
  unfold J4 QBg at h
  cases h1 : (decide (0 ≤ t.Earliest) && decide (t.Earliest ≤ 1000)) with
  | false => rw [h1] at h; cases h
  | true =>
    cases h2 : (decide (0 ≤ t.Latest) && decide (t.Latest ≤ 1000)) with
    | false => rw [h1, h2] at h; cases h
    | true =>
      cases h3 : decide (t.Earliest ≤ t.Latest) with
      | false => rw [h1, h2, h3] at h; cases h
      | true =>
        cases h4 : decide (0 < (t.Steps.length : Int)) with
        | false => rw [h1, h2, h3, h4] at h; cases h
        | true =>
          cases h5 : decide ((t.Steps.length : Int) ≤ 12) with
          | false => rw [h1, h2, h3, h4, h5] at h; cases h
          | true =>
            rw [h1, h2, h3, h4, h5] at h
            simp only [Bool.and_self, Bool.not_true, cond_false] at h
            unfold Qka at h
            have hz := Qvn h
            simp only [Bool.and_eq_true, decide_eq_true_eq] at h1 h2 h3 h4 h5
            refine ⟨h1, h2, h3, by omega, by omega, fun x hx => ?_⟩
            obtain ⟨k, hk, rfl⟩ := List.mem_iff_getElem.1 hx
            have := hz k hk
            rw [Qnx _ _ _ hk] at this
            unfold Ju at this
            cases a : (decide (0 ≤ t.Steps[k].Section) && decide (t.Steps[k].Section ≤ (m : Int) - 1)) with
            | false => rw [a] at this; cases this
            | true =>
              cases b : (decide (-20000 ≤ t.Steps[k].Power) && decide (t.Steps[k].Power ≤ 20000)) with
              | false => rw [a, b] at this; cases this
              | true =>
                simp only [Bool.and_eq_true, decide_eq_true_eq] at a b
                exact ⟨a.1, a.2, b.1, b.2⟩
theorem QNs {n : FeedNet} (hn : NetOk n) {d : FeedDeparture} {o : List FeedDeparture} (h : J6 n d o = 0) : YV n.Sections.length (X9 n d) := by
  have h0 := Qma h
  obtain ⟨t, h1, h2, h3⟩ := Qqg h0
  have ht := QBf (hn.tr t (List.mem_of_getElem? h1))
  unfold J6 at h
  rw [if_neg (by omega)] at h
  split at h
  · cases h
  · cases b : (decide (0 ≤ d.At) && decide (d.At ≤ 1000)) with
    | false => rw [b] at h; cases h
    | true =>
      simp only [Bool.and_eq_true, decide_eq_true_eq] at b
      unfold YV X9
      rw [h1]
      exact ⟨ht.2.2.2.2.2, ht.2.2.2.2.1, b.1, b.2⟩
end Go.Gw

end
section
set_option maxRecDepth 4096
namespace Go.Gw
open Go
structure LadOk (l : FeedLadder) : Prop where
  pos : 0 < l.Loads.length
  most : l.Loads.length ≤ 8
  len : l.Ohms.length = l.Loads.length + 1
  ohm : ∀ x ∈ l.Ohms, 1 ≤ x ∧ x ≤ 500
  load : ∀ x ∈ l.Loads, -20000 ≤ x ∧ x ≤ 20000
theorem Qbj {a b m n : Int} (ha : -m ≤ a ∧ a ≤ m) (hb : -n ≤ b ∧ b ≤ n) : -(m * n) ≤ a * b ∧ a * b ≤ m * n := by
  have h1 : a.natAbs ≤ m.natAbs := by omega
  have h2 : b.natAbs ≤ n.natAbs := by omega
  have h3 := Nat.mul_le_mul h1 h2
  rw [← Int.natAbs_mul, ← Int.natAbs_mul] at h3
  have h4 : 0 ≤ m * n := Int.mul_nonneg (by omega) (by omega)
  omega
section
variable {l : FeedLadder} (h : LadOk l)
include h
end
section
variable {l : FeedLadder} (h : LadOk l)
include h
end
end Go.Gw

end
section
set_option maxRecDepth 4096
namespace Go.Gw
open Go
def Xv (s : FeedSection) (p : Int) : Int := if p < 0 then p * (1000 - s.Loss) else p * (1000 + s.Loss)
def XU (s : FeedSection) (k : Int) : Int := if s.Left = k then s.Share else if s.Right = k then 1000 - s.Share else 0
def Jy (s : FeedSection) : Prop := (0 ≤ s.Share ∧ s.Share ≤ 1000) ∧ 0 ≤ s.Loss ∧ s.Loss ≤ 500
theorem Qck {s : FeedSection} {n : Nat} (h : ZC s n = 0) : Jy s := by
  unfold ZC Qpg at h
  have key : ((decide (0 ≤ s.Share) && decide (s.Share ≤ 1000)) && (decide (0 ≤ s.Loss) && decide (s.Loss ≤ 500))) = true := by
    cases hb : ((decide (0 ≤ s.Share) && decide (s.Share ≤ 1000)) && (decide (0 ≤ s.Loss) && decide (s.Loss ≤ 500))) with
    | true => rfl
    | false =>
      rw [hb] at h
      revert h
      generalize ((!(decide (s.Left = -1) || (decide (0 ≤ s.Left) && decide (s.Left ≤ (n : Int) - 1)))) || !(decide (s.Right = -1) || (decide (0 ≤ s.Right) && decide (s.Right ≤ (n : Int) - 1)))) = a
      generalize (decide (s.Left = -1) && decide (s.Right = -1)) = b
      generalize decide (s.Left = s.Right) = c
      cases a <;> cases b <;> cases c <;> intro h <;> cases h
  simp only [Bool.and_eq_true, decide_eq_true_eq] at key
  exact ⟨key.1, key.2⟩
theorem Qda {s : FeedSection} (hs : Jy s) {p : Int} (hp : -160000 ≤ p ∧ p ≤ 160000) : -240000000 ≤ Xv s p ∧ Xv s p ≤ 240000000 := by
  obtain ⟨_, h1, h2⟩ := hs
  unfold Xv
  split
  · have := Qbj (a := p) (b := 1000 - s.Loss) (m := 160000) (n := 1500) hp (by omega); omega
  · have := Qbj (a := p) (b := 1000 + s.Loss) (m := 160000) (n := 1500) hp (by omega); omega
theorem Qjo {s : FeedSection} (hs : Jy s) (k : Int) : -1000 ≤ XU s k ∧ XU s k ≤ 1000 := by
  obtain ⟨h0, _⟩ := hs
  unfold XU
  split
  · omega
  · split <;> omega
theorem Qsg {s : FeedSection} (hs : Jy s) {p : Int} (hp : -160000 ≤ p ∧ p ≤ 160000) : Qdh s p = some (Xv s p) := by
  have hb := Qda hs hp
  obtain ⟨_, h1, h2⟩ := hs
  unfold Qdh Xv at *
  by_cases h : p < 0
  · rw [if_pos h] at hb ⊢
    rw [decide_eq_true h, cond_true, XJ (x := 1000 - s.Loss) (by omega), XJ (by omega)]
  · rw [if_neg h] at hb ⊢
    rw [decide_eq_false h, cond_false, XJ (x := 1000 + s.Loss) (by omega), XJ (by omega)]
theorem QMy {s : FeedSection} (hs : Jy s) (k : Int) : Qpa s k = some (XU s k) := by
  obtain ⟨h0, _⟩ := hs
  unfold Qpa XU
  by_cases h1 : s.Left = k
  · rw [decide_eq_true h1, if_pos h1]; rfl
  · rw [decide_eq_false h1, if_neg h1]
    by_cases h2 : s.Right = k
    · rw [decide_eq_true h2, if_pos h2]
      simp only [cond_false, cond_true]
      rw [XJ (by omega)]
    · rw [decide_eq_false h2, if_neg h2]; rfl
theorem Qsh {s : FeedSection} (hs : Jy s) (k : Int) : Qdi s k = some (XU s k) := by
  rw [← QMy hs k]
  unfold Qdi Qpa
  rw [show decide (k = s.Left) = decide (s.Left = k) from decide_eq_decide.2 eq_comm, show decide (k = s.Right) = decide (s.Right = k) from decide_eq_decide.2 eq_comm]
end Go.Gw

end
section
set_option maxRecDepth 4096
namespace Go.Gw
open Go
def Y1 (secs : List FeedSection) (f : Nat → Int) (k : Nat) : Nat → Int
  | 0 => 0
  | j + 1 => Y1 secs f k j + (secs[j]?.map fun s => Xv s (f j) * XU s (k : Int)).getD 0
section
variable {secs : List FeedSection} {f : Nat → Int} (hs : ∀ s ∈ secs, Jy s) (hf : ∀ j, -160000 ≤ f j ∧ f j ≤ 160000)
include hs hf
theorem QQo (k j : Nat) : -240000000000 ≤ (secs[j]?.map fun s => Xv s (f j) * XU s (k : Int)).getD 0 ∧ (secs[j]?.map fun s => Xv s (f j) * XU s (k : Int)).getD 0 ≤ 240000000000 := by
  by_cases hj : j < secs.length
  · rw [List.getElem?_eq_getElem hj]
    have h1 := hs _ (List.getElem_mem hj)
    have := Qbj (Qda h1 (hf j)) (Qjo h1 (k : Int))
    simp only [Option.map_some, Option.getD_some]
    omega
  · rw [List.getElem?_eq_none (Nat.le_of_not_lt hj)]; simp
theorem Qoe (k : Nat) : ∀ j : Nat, -(240000000000 * (j : Int)) ≤ Y1 secs f k j ∧ Y1 secs f k j ≤ 240000000000 * (j : Int)
  | 0 => by simp [Y1]
  | j + 1 => by
    have h1 := Qoe k j
    have h2 := QQo hs hf k j
    simp only [Y1]
    omega
end
theorem QJd {secs : List FeedSection} {f : Nat → Int} {k j : Nat} (hj : j < secs.length) : (secs[j]?.map fun s => Xv s (f j) * XU s (k : Int)).getD 0 = Xv secs[j] (f j) * XU secs[j] (k : Int) := by
  rw [List.getElem?_eq_getElem hj]; rfl
theorem QNc (m j : Nat) (hj : j < m) (f g : Nat → Int) : ((List.range m).map fun i => if i < j then g i else f i).set j (g j) = (List.range m).map fun i => if i < j + 1 then g i else f i := by
  apply List.ext_getElem?
  intro i
  by_cases hi : i = j
  · subst hi
    rw [List.getElem?_set_self (by simpa using hj)]
    simp [hj]
  · rw [List.getElem?_set_ne (Ne.symm hi)]
    by_cases him : i < m
    · simp only [List.getElem?_map, List.getElem?_range him, Option.map_some, Option.some.injEq]
      by_cases h1 : i < j
      · rw [if_pos h1, if_pos (by omega)]
      · rw [if_neg h1, if_neg (by omega)]
    · simp [him]
theorem QJh (m j : Nat) (hj : j < m) (f g : Nat → Int) : idx ((List.range m).map fun i => if i < j then g i else f i) (j : Int) = some (f j) := by
  rw [X5?]
  simp [hj]
theorem QEi {s : FeedSection} (hs : Jy s) {p : Int} (hp : -160000 ≤ p ∧ p ≤ 160000) {m : Nat} (hm : m < 1000) {f : Nat → Int} (hf : ∀ i, -1000000000000000 ≤ f i ∧ f i ≤ 1000000000000000) :
    loop (Qdk p s ((List.range m).map f)) ((List.range m).map f, 0) = some ((List.range m).map fun i => f i + Xv s p * XU s (i : Int)) := by
  have e0 : ((List.range m).map fun i => if i < 0 then f i + Xv s p * XU s (i : Int) else f i) = (List.range m).map f := by
    apply List.map_congr_left; intro i _; simp
  have eN : ((List.range m).map fun i => if i < m then f i + Xv s p * XU s (i : Int) else f i) = (List.range m).map fun i => f i + Xv s p * XU s (i : Int) := by
    apply List.map_congr_left; intro i hi; rw [if_pos (List.mem_range.1 hi)]
  have hlen : (((List.range m).map f).length : Int) = (m : Int) := by simp
  have key := JK (step := Qdk p s ((List.range m).map f)) (o := (List.range m).map fun i => f i + Xv s p * XU s (i : Int)) (fun j => ((List.range m).map fun i => if i < j then f i + Xv s p * XU s (i : Int) else f i, (j : Int))) m (fun j hj => by
    have hb := Qbj (Qda hs hp) (Qjo hs (j : Int))
    have hfj := hf j
    unfold Qdk
    simp only [hlen, Yg hj, cond_true, QJh m j hj f (fun i => f i + Xv s p * XU s (i : Int)), QJ]
    rw [Qsg hs hp, QJ, Qsh hs, QJ, XJ (x := Xv s p * XU s (j : Int)) (by omega), XJ (x := f j + Xv s p * XU s (j : Int)) (by omega), Yk j (by omega)]
    simp only [Int.toNat_natCast]
    rw [QNc m j hj f (fun i => f i + Xv s p * XU s (i : Int))]) (by
    unfold Qdk
    simp only [hlen, Yh, cond_false, eN])
  simp only [e0] at key
  exact key
def Qfq (n : FeedNet) (f : Nat → Int) : List Int := (List.range n.Stations.length).map fun k => Y1 n.Sections f k n.Sections.length
theorem QEk {n : FeedNet} (hn : NetOk n) {l : List feed_run} (hl : l.length ≤ 8) (h : ∀ r ∈ l, YV n.Sections.length r) {t : Int} (ht : 0 ≤ t) (ht2 : t ≤ 100000) : Qdl ⟨n⟩ l t = some (Qfq n (Q7 l t)) := by
  have h1 := hn.st6
  have h2 := hn.se10
  have hs : ∀ s ∈ n.Sections, Jy s := fun s hx => Qck (hn.sec s hx)
  have hf : ∀ j, -160000 ≤ Q7 l t j ∧ Q7 l t j ≤ 160000 := fun j => by have := Qov h t j; omega
  have hlen : (((List.range n.Sections.length).map (Q7 l t)).length : Int) = (n.Sections.length : Int) := by simp
  have key : loop (Qez ⟨n⟩ ((List.range n.Sections.length).map (Q7 l t))) ((List.range n.Stations.length).map (fun _ => (0 : Int)), 0) = some (Qfq n (Q7 l t)) :=
    JK (fun j => ((List.range n.Stations.length).map (fun k => Y1 n.Sections (Q7 l t) k j), (j : Int))) n.Sections.length (fun j hj => by
      have hb : ∀ k, -1000000000000000 ≤ Y1 n.Sections (Q7 l t) k j ∧ Y1 n.Sections (Q7 l t) k j ≤ 1000000000000000 := fun k => by have := Qoe hs hf k j; omega
      have hidx : idx ((List.range n.Sections.length).map (Q7 l t)) (j : Int) = some (Q7 l t j) := by rw [X5?]; simp [hj]
      unfold Qez
      simp only [hlen, Yg hj, cond_true, hidx, QJ, X5 hj]
      rw [QEi (hs _ (List.getElem_mem hj)) (hf j) (by omega) hb, QJ, Yk j (by omega)]
      congr 3
      apply List.map_congr_left
      intro k _
      simp only [Y1, QJd hj]) (by
      unfold Qez Qfq
      simp only [hlen, Yh, cond_false])
  unfold Qdl
  show (Option.bind (mk (n.Stations.length : Int) (0 : Int)) _) = _
  rw [Qwk _ (by omega), QJ, Qxz (by omega) hl h ht ht2, QJ, key]
  rfl
end Go.Gw

end
section
set_option maxRecDepth 4096
namespace Go.Gw
open Go
def pd (t : Int) (s : Nat) (r : feed_run) : List Int := if 0 ≤ t - r.at_ ∧ t - r.at_ ≤ (r.FeedTrain.Steps.length : Int) - 1 then (match r.FeedTrain.Steps[(t - r.at_).toNat]? with | some x => if x.Section = (s : Int) then [x.Power] else [] | none => []) else []
theorem QMp (t : Int) (s : Nat) (r : feed_run) : (pd t s r).sum = Z1 r.FeedTrain.Steps (t - r.at_) s := by
  unfold pd Z1
  by_cases h : 0 ≤ t - r.at_ ∧ t - r.at_ ≤ (r.FeedTrain.Steps.length : Int) - 1
  · rw [if_pos h, if_pos h]
    cases hx : r.FeedTrain.Steps[(t - r.at_).toNat]? with
    | none => rfl
    | some x => by_cases hs : x.Section = (s : Int) <;> simp [hs]
  · rw [if_neg h, if_neg h]; rfl
theorem Qif (t : Int) (s : Nat) : ∀ l : List feed_run, (l.flatMap (pd t s)).sum = Q7 l t s
  | [] => rfl
  | r :: l => by
    rw [List.flatMap_cons, List.sum_append, Qif t s l, QMp]
    simp [Q7]
end Go.Gw

end
section
set_option maxRecDepth 4096
namespace Go.Gw
open Go
end Go.Gw

end
section
set_option maxRecDepth 4096
namespace Go.Gw
open Go
def Qhp (n : FeedNet) (l : List FeedDeparture) : Int := if 6 < l.length then 8 else match X8 (Ze n l) l.length with | some i => Ze n l i | none => 0
def Jj (n : FeedNet) (l : List FeedDeparture) : Int := if (ZT n).2 ≠ 0 then (ZT n).2 else Qhp n l
def ZD (t : Int) : Int := if 0 ≤ t ∧ t ≤ 1012 then 0 else 2
theorem Qgm (a b : Prop) [Decidable a] [Decidable b] : (decide a && decide b) = decide (a ∧ b) := (Bool.decide_and a b).symm
theorem Qmj (t : Int) : Qca t = some (ZD t) := by
  unfold Qca ZD
  rw [Qan, QJ, J5, QJ, Qgm]
  by_cases h : 0 ≤ t ∧ t ≤ 1012 <;> simp [h]
theorem Qyb (t : Int) : Qfw t = some (ZD t) := by
  unfold Qfw ZD
  rw [Qas, QJ, Qgm]
  by_cases h : 0 ≤ t ∧ t ≤ 1012 <;> simp [h]
theorem Qxq {n : FeedNet} (h : NetS n) (l : List FeedDeparture) : Qby n l = some (⟨n⟩, (if Jj n l = 0 then l.map (X9 n) else []), Jj n l) := by
  unfold Qby Qfe Jj
  rw [QEh h, QJ, QJ]
  by_cases h0 : (ZT n).2 = 0
  · simp only [h0, ne_eq, not_true_eq_false, if_false, decide_true, Bool.not_true, cond_false]
    rw [show feed_net.mk (FeedNet.mk n.Stations n.Sections n.Trains) = feed_net.mk n from rfl, QEm n l h.tr, QJ]
    unfold Qhp
    by_cases h6 : 6 < l.length
    · simp [h6]
    · rw [if_neg h6, if_neg h6]
      rcases Qav (Ze n l) l.length with ⟨e, _⟩ | ⟨i, e, _, hi, _⟩
      · rw [e]; simp
      · rw [e]; simp [hi]
  · simp [h0]
theorem QMt {n : FeedNet} (h : NetS n) (l : List FeedDeparture) : Qiy n l = some (Jj n l) := by
  unfold Qiy Qox Jj Qhp
  rw [QMv h, QJ]
  by_cases h0 : (ZT n).2 = 0
  · simp only [h0, ne_eq, not_true_eq_false, if_false, decide_true, Bool.not_true, cond_false, QJ]
    rw [QMu n l h.tr, QJ]
    by_cases h6 : 6 < l.length
    · rw [if_pos h6, if_pos h6]
    · rw [if_neg h6, if_neg h6]
      cases X8 (Ze n l) l.length <;> rfl
  · simp [h0]
theorem Qvq (a b : Int) : Zh [a, b] = if a ≠ 0 then a else b := by
  unfold Zh Zh Zh; by_cases h : a = 0 <;> by_cases h2 : b = 0 <;> simp [h, h2]
theorem QJa (a b c : Int) : Zh [a, b, c] = if a ≠ 0 then a else if b ≠ 0 then b else c := by
  unfold Zh Zh Zh Zh; by_cases h : a = 0 <;> by_cases h2 : b = 0 <;> by_cases h3 : c = 0 <;> simp [h, h2, h3]
theorem Qlu {n : FeedNet} {l : List FeedDeparture} (h : Jj n l = 0) : NetOk n ∧ l.length ≤ 6 ∧ ∀ d ∈ l, YV n.Sections.length (X9 n d) ∧ 0 ≤ YB n d.Train := by
  unfold Jj at h
  by_cases h0 : (ZT n).2 = 0
  · have hn := Qoj h0
    simp only [h0, ne_eq, not_true_eq_false, if_false] at h
    unfold Qhp at h
    by_cases h6 : 6 < l.length
    · rw [if_pos h6] at h; omega
    · rw [if_neg h6] at h
      refine ⟨hn, by omega, fun d hd => ?_⟩
      obtain ⟨k, hk, rfl⟩ := List.getElem_of_mem hd
      have hz := Qvn h k hk
      unfold Ze at hz
      rw [List.getElem?_eq_getElem hk] at hz
      exact ⟨QNs hn hz, Qma hz⟩
  · rw [if_pos h0] at h; exact absurd h h0
end Go.Gw

end
section
set_option maxRecDepth 4096
namespace Go.Gw
open Go
structure Rt (n : FeedNet) (l : List FeedDeparture) : Prop where
  ne : NetOk n
  tr : n.Trains.length < 1000
  l6 : l.length ≤ 6
  ru : ∀ d ∈ l, YV n.Sections.length (X9 n d) ∧ 0 ≤ YB n d.Train
section
variable {n : FeedNet} {l : List FeedDeparture} (h : Rt n l)
include h
end
end Go.Gw

end
section
set_option maxRecDepth 4096
namespace Go.Gw
open Go
section
variable {n : FeedNet} {rs : List feed_run} (hn : NetOk n) (hl : rs.length ≤ 8) (h : ∀ r ∈ rs, YV n.Sections.length r)
include hn
end
section
variable {n : FeedNet} {l : List FeedDeparture} (h : Rt n l)
include h
end
end Go.Gw

end
section
set_option maxRecDepth 4096
namespace Go.Gw
open Go
def QI (g : Nat → Int) : Nat → Int
  | 0 => 0
  | k + 1 => QI g k + g k
theorem Jv {g : Nat → Int} {c : Int} (h : ∀ j, -c ≤ g j ∧ g j ≤ c) : ∀ k : Nat, -(c * (k : Int)) ≤ QI g k ∧ QI g k ≤ c * (k : Int)
  | 0 => by simp [QI]
  | k + 1 => by
    have h1 := Jv h k
    have h2 := h k
    simp only [QI]
    rw [show c * ((k + 1 : Nat) : Int) = c * (k : Int) + c by rw [Int.natCast_add, Int.mul_add]; simp]
    omega
theorem Qps {g : Nat → Int} (h : ∀ j, g j = 0) : ∀ k, QI g k = 0
  | 0 => rfl
  | k + 1 => by simp only [QI]; rw [Qps h k, h k]; rfl
theorem Qkc {g g' : Nat → Int} : ∀ k, (∀ j, j < k → g j = g' j) → QI g k = QI g' k
  | 0, _ => rfl
  | k + 1, h => by simp only [QI]; rw [Qkc k (fun j hj => h j (by omega)), h k (by omega)]
theorem Qgg (g g' : Nat → Int) : ∀ k, QI (fun j => g j + g' j) k = QI g k + QI g' k
  | 0 => rfl
  | k + 1 => by simp only [QI]; rw [Qgg g g' k]; omega
def Xz (x : Int) : Int := if x < 0 then 0 else x
def YP (x : Int) : Int := if x < -x then -x else x
theorem Qfr {x c : Int} (hc : 0 ≤ c) (h : x ≤ c) : 0 ≤ Xz x ∧ Xz x ≤ c := by unfold Xz; split <;> omega
theorem Qwo {x c : Int} (h : -c ≤ x ∧ x ≤ c) : 0 ≤ YP x ∧ YP x ≤ c := by unfold YP; split <;> omega
def Yu (t : Int) (r : feed_run) : Int := if 0 ≤ t - r.at_ ∧ t - r.at_ ≤ (r.FeedTrain.Steps.length : Int) - 1 then (match r.FeedTrain.Steps[(t - r.at_).toNat]? with | some x => x.Power | none => 0) else 0
theorem Qou {m : Nat} {r : feed_run} (h : YV m r) (t : Int) : -20000 ≤ Yu t r ∧ Yu t r ≤ 20000 := by
  unfold Yu
  split
  · split
    · rename_i y hy
      have := h.1 y (List.mem_of_getElem? hy); omega
    · omega
  · omega
theorem QPs {m : Nat} {r : feed_run} (h : YV m r) {t : Int} (ht : 0 ≤ t) (ht2 : t ≤ 100000) : ∃ o, Qbg r t = some o ∧ o.1.Power = Yu t r := by
  obtain ⟨h1, h2, h3, h4⟩ := h
  unfold Qbg
  rw [XJ (by omega), XJ (by omega), Qan, QJ]
  by_cases hin : 0 ≤ t - r.at_ ∧ t - r.at_ ≤ (r.FeedTrain.Steps.length : Int) - 1
  · have e : (decide (0 ≤ t - r.at_) && decide (t - r.at_ ≤ (r.FeedTrain.Steps.length : Int) - 1)) = true := by
      rw [decide_eq_true hin.1, decide_eq_true hin.2]; rfl
    have hk : (t - r.at_).toNat < r.FeedTrain.Steps.length := by omega
    have hidx : idx r.FeedTrain.Steps (t - r.at_) = some r.FeedTrain.Steps[(t - r.at_).toNat] := by
      unfold idx; rw [if_pos hin.1, List.getElem?_eq_getElem hk]
    rw [e]
    simp only [Bool.not_true, cond_false]
    rw [hidx, QJ]
    refine ⟨_, rfl, ?_⟩
    unfold Yu
    rw [if_pos hin, List.getElem?_eq_getElem hk]
  · have e : (decide (0 ≤ t - r.at_) && decide (t - r.at_ ≤ (r.FeedTrain.Steps.length : Int) - 1)) = false := by
      rw [Bool.eq_false_iff]; intro e; simp at e; exact hin (by omega)
    rw [e]
    exact ⟨_, rfl, by unfold Yu; rw [if_neg hin]⟩
def fR (f : Int → Int) (R : List feed_run) (t : Int) : Int := (R.map fun r => f (Yu t r)).sum
def fU (x : Int) : Int := 1000000 * Xz x
def fB (x : Int) : Int := 1000000 * Xz (-x)
theorem Qhs {x : Int} (h : -20000 ≤ x ∧ x ≤ 20000) : 0 ≤ fU x ∧ fU x ≤ 20000000000 := by
  have := Qfr (x := x) (c := 20000) (by omega) h.2; unfold fU; omega
theorem Qdb {x : Int} (h : -20000 ≤ x ∧ x ≤ 20000) : 0 ≤ fB x ∧ fB x ≤ 20000000000 := by
  have := Qfr (x := -x) (c := 20000) (by omega) (by omega); unfold fB; omega
theorem Qbf {m : Nat} {f : Int → Int} (hf : ∀ x, -20000 ≤ x ∧ x ≤ 20000 → 0 ≤ f x ∧ f x ≤ 20000000000) (t : Int) : ∀ {R : List feed_run}, (∀ r ∈ R, YV m r) → 0 ≤ fR f R t ∧ fR f R t ≤ 20000000000 * (R.length : Int)
  | [], _ => by simp [fR]
  | r :: R, h => by
    have h1 := Qbf hf t (R := R) fun r hr => h r (List.mem_cons_of_mem _ hr)
    have h2 := hf _ (Qou (h r List.mem_cons_self) t)
    unfold fR at *
    rw [List.map_cons, List.sum_cons, List.length_cons]
    omega
theorem Qsi (f : Int → Int) {R : List feed_run} {t : Int} {k : Nat} (hk : k < R.length) : fR f (R.take (k + 1)) t = fR f (R.take k) t + f (Yu t R[k]) := by
  unfold fR
  rw [List.take_add_one, List.getElem?_eq_getElem hk, List.map_append, List.sum_append]
  simp
theorem QCu {m : Nat} (N : feed_net) (e : Int) {R : List feed_run} (hR : ∀ r ∈ R, YV m r) (hl : R.length ≤ 8) {t : Int} (ht : 0 ≤ t) (ht2 : t ≤ 100000) {u b : Int} (hu : -1000000000000000000 ≤ u ∧ u ≤ 1000000000000000000) (hb : -1000000000000000000 ≤ b ∧ b ≤ 1000000000000000000) :
    loop (Qdc (N, R, e) t) (0, u, b) = some (u + fR fU R t, b + fR fB R t) := by
  have key := JK (step := Qdc (N, R, e) t) (o := (u + fR fU R t, b + fR fB R t)) (fun k => ((k : Int), u + fR fU (R.take k) t, b + fR fB (R.take k) t)) R.length (fun k hk => by
    obtain ⟨o, ho, hp⟩ := QPs (hR _ (List.getElem_mem hk)) ht ht2
    have hT : ∀ r ∈ R.take k, YV m r := fun r hr => hR r (List.mem_of_mem_take hr)
    have b1 := Qbf (f := fU) (fun x h => Qhs h) t hT
    have b2 := Qbf (f := fB) (fun x h => Qdb h) t hT
    have bp := Qou (hR _ (List.getElem_mem hk)) t
    have b3 := Qhs bp
    have b4 := Qdb bp
    have hlk : (R.take k).length ≤ 8 := by rw [List.length_take]; omega
    rw [Qsi fU hk, Qsi fB hk]
    unfold Qdc
    simp only [Yg hk, cond_true, X5 hk, QJ, ho, hp]
    rw [XJ (x := 0 - Yu t R[k]) (by omega), show (0 : Int) - Yu t R[k] = -Yu t R[k] by omega]
    have e1 : (1000000 * if Yu t R[k] < 0 then 0 else Yu t R[k]) = fU (Yu t R[k]) := rfl
    have e2 : (1000000 * if -Yu t R[k] < 0 then 0 else -Yu t R[k]) = fB (Yu t R[k]) := rfl
    rw [e1, e2, XJ (x := fU (Yu t R[k])) (by omega), XJ (x := fB (Yu t R[k])) (by omega), XJ (x := u + fR fU (R.take k) t + fU (Yu t R[k])) (by omega), XJ (x := b + fR fB (R.take k) t + fB (Yu t R[k])) (by omega), Yk k (by omega), Int.add_assoc, Int.add_assoc]) (by
    unfold Qdc
    simp only [Yh, cond_false, List.take_length])
  simpa [fR] using key
def gK (n : FeedNet) (s : FeedSection) (d : Int) (w : Bool) (k : Nat) : Int := (n.Stations[k]?.map fun st => if st.Takes = w then XU s (k : Int) * Xz (-d) else 0).getD 0
theorem Qnu (n : FeedNet) {s : FeedSection} (hs : Jy s) {d : Int} (hd : -240000000 ≤ d ∧ d ≤ 240000000) (w : Bool) (k : Nat) : -240000000000 ≤ gK n s d w k ∧ gK n s d w k ≤ 240000000000 := by
  unfold gK
  cases n.Stations[k]? with
  | none => simp
  | some st =>
    have h1 := Qbj (a := XU s (k : Int)) (b := Xz (-d)) (m := 1000) (n := 240000000) (Qjo hs k) (by have := Qfr (x := -d) (c := 240000000) (by omega) (by omega); omega)
    simp only [Option.map_some, Option.getD_some]
    split <;> omega
theorem Qnv (n : FeedNet) (s : FeedSection) (d : Int) (w : Bool) {k : Nat} (hk : k < n.Stations.length) : gK n s d w k = if n.Stations[k].Takes = w then XU s (k : Int) * Xz (-d) else 0 := by
  unfold gK; rw [List.getElem?_eq_getElem hk]; rfl
theorem QCv {n : FeedNet} (hn : n.Stations.length ≤ 6) {s : FeedSection} (hs : Jy s) {d : Int} (hd : -240000000 ≤ d ∧ d ≤ 240000000) {u b : Int} (hu : -1000000000000000000 ≤ u ∧ u ≤ 1000000000000000000) (hb : -1000000000000000000 ≤ b ∧ b ≤ 1000000000000000000) :
    loop (Qdd s n d) (0, u, b) = some (u + QI (gK n s d true) n.Stations.length, b + QI (gK n s d false) n.Stations.length) := by
  have key := JK (step := Qdd s n d) (o := (u + QI (gK n s d true) n.Stations.length, b + QI (gK n s d false) n.Stations.length)) (fun k => ((k : Int), u + QI (gK n s d true) k, b + QI (gK n s d false) k)) n.Stations.length (fun k hk => by
    have b1 := Jv (fun j => Qnu n hs hd true j) k
    have b2 := Jv (fun j => Qnu n hs hd false j) k
    have hm := Qbj (a := XU s (k : Int)) (b := Xz (-d)) (m := 1000) (n := 240000000) (Qjo hs k) (by have := Qfr (x := -d) (c := 240000000) (by omega) (by omega); omega)
    unfold Qdd
    simp only [Yg hk, cond_true, X5 hk, QJ]
    rw [Qsh hs, QJ, XJ (x := 0 - d) (by omega), show (0 : Int) - d = -d by omega]
    have e1 : (if -d < 0 then 0 else -d) = Xz (-d) := rfl
    rw [e1, XJ (x := XU s (k : Int) * Xz (-d)) (by omega), Yk k (by omega)]
    simp only [QI, Qnv n s d _ hk]
    cases n.Stations[k].Takes with
    | true =>
      rw [cond_true, XJ (by omega), if_pos rfl, if_neg (by decide), Int.add_assoc, Int.add_zero]
    | false =>
      rw [cond_false, XJ (by omega), if_pos rfl, if_neg (by decide), Int.add_assoc, Int.add_zero]) (by
    unfold Qdd
    simp only [Yh, cond_false])
  simpa [QI] using key
end Go.Gw

end
section
set_option maxRecDepth 4096
namespace Go.Gw
open Go
/-! ### Lists, compared -/
def ZG : List Int → List Int → Int
  | [], [] => 0
  | [], _ :: _ => -1
  | _ :: _, [] => 1
  | x :: xs, y :: ys => if x < y then -1 else if y < x then 1 else ZG xs ys
theorem Qwe : ∀ {a b}, ZG a b = 0 → a = b
  | [], [], _ => rfl
  | [], _ :: _, h => by simp [ZG] at h
  | _ :: _, [], h => by simp [ZG] at h
  | x :: xs, y :: ys, h => by
    unfold ZG at h
    by_cases h1 : x < y
    · simp [h1] at h
    · by_cases h2 : y < x
      · simp [h1, h2] at h
      · simp only [h1, h2, if_false] at h
        rw [show x = y by omega, Qwe h]
theorem Qwd : ∀ a b, ZG a b = -ZG b a
  | [], [] => rfl
  | [], _ :: _ => rfl
  | _ :: _, [] => rfl
  | x :: xs, y :: ys => by
    unfold ZG
    by_cases h1 : x < y
    · have h2 : ¬ y < x := by omega
      simp [h1, h2]
    · by_cases h2 : y < x
      · simp [h1, h2]
      · simp only [h1, h2, if_false]; exact Qwd xs ys
theorem Qwf : ∀ {a b c}, ZG a b ≤ 0 → ZG b c ≤ 0 → ZG a c ≤ 0
  | [], _, [], _, _ => by simp [ZG]
  | [], _, _ :: _, _, _ => by simp [ZG]
  | _ :: _, [], _, h, _ => by simp [ZG] at h
  | _ :: _, _ :: _, [], _, h => by simp [ZG] at h
  | x :: xs, y :: ys, z :: zs, h1, h2 => by
    unfold ZG at h1 h2 ⊢
    by_cases a1 : x < y
    · by_cases b1 : y < z
      · rw [if_pos (by omega)]; omega
      · by_cases b2 : z < y
        · simp [b1, b2] at h2
        · rw [if_pos (by omega)]; omega
    · by_cases a2 : y < x
      · simp [a1, a2] at h1
      · obtain rfl : x = y := by omega
        simp only [a1, if_false] at h1
        by_cases b1 : x < z
        · rw [if_pos b1]; omega
        · by_cases b2 : z < x
          · simp [b1, b2] at h2
          · simp only [b1, b2, if_false] at h2 ⊢
            exact Qwf h1 h2
/-! ### Plans, compared -/
def pc (p o : feed_plan) : Int := if p.delay < o.delay then -1 else if o.delay < p.delay then 1 else ZG p.at_ o.at_
theorem QMm (p q : feed_plan) : pc p q = -pc q p := by
  unfold pc
  by_cases h1 : p.delay < q.delay
  · have h2 : ¬ q.delay < p.delay := by omega
    simp [h1, h2]
  · by_cases h2 : q.delay < p.delay
    · simp [h1, h2]
    · simp only [h1, h2, if_false]; exact Qwd _ _
theorem QMo {p q r : feed_plan} (h1 : pc p q ≤ 0) (h2 : pc q r ≤ 0) : pc p r ≤ 0 := by
  unfold pc at *
  by_cases a1 : p.delay < q.delay
  · by_cases b1 : q.delay < r.delay
    · rw [if_pos (by omega)]; omega
    · by_cases b2 : r.delay < q.delay
      · simp [b1, b2] at h2
      · rw [if_pos (by omega)]; omega
  · by_cases a2 : q.delay < p.delay
    · simp [a1, a2] at h1
    · simp only [a1, a2, if_false] at h1
      by_cases b1 : q.delay < r.delay
      · rw [if_pos (by omega)]; omega
      · by_cases b2 : r.delay < q.delay
        · simp [b1, b2] at h2
        · simp only [b1, b2, if_false] at h2
          rw [if_neg (by omega), if_neg (by omega)]
          exact Qwf h1 h2
theorem QMn {p q : feed_plan} (hp : p.found = true) (hq : q.found = true) (h : pc p q = 0) : p = q := by
  unfold pc at h
  by_cases h1 : p.delay < q.delay
  · simp [h1] at h
  · by_cases h2 : q.delay < p.delay
    · simp [h1, h2] at h
    · simp only [h1, h2, if_false] at h
      have h3 := Qwe h
      have h4 : p.delay = q.delay := by omega
      cases p; cases q
      simp only at hp hq h3 h4
      subst hp hq h3 h4
      rfl
def Bst (l : List feed_plan) (B : feed_plan) : Prop := ((∀ p ∈ l, p.found = false) ∧ B.found = false) ∨ (B ∈ l ∧ B.found = true ∧ ∀ q ∈ l, q.found = true → pc B q ≤ 0)
theorem Bst.found_eq {l : List feed_plan} {B B' : feed_plan} (h : Bst l B) (h' : Bst l B') : B.found = B'.found := by
  rcases h with ⟨h1, h2⟩ | ⟨h1, h2, h3⟩
  · rcases h' with ⟨k1, k2⟩ | ⟨k1, k2, k3⟩
    · rw [h2, k2]
    · have := h1 _ k1; rw [k2] at this; cases this
  · rcases h' with ⟨k1, k2⟩ | ⟨k1, k2, k3⟩
    · have := k1 _ h1; rw [h2] at this; cases this
    · rw [h2, k2]
theorem Bst.eq {l : List feed_plan} {B B' : feed_plan} (h : Bst l B) (h' : Bst l B') (hf : B.found = true) : B = B' := by
  have hf' := (h.found_eq h').symm.trans hf
  rcases h with ⟨h1, h2⟩ | ⟨h1, h2, h3⟩
  · rw [h2] at hf; cases hf
  · rcases h' with ⟨k1, k2⟩ | ⟨k1, k2, k3⟩
    · rw [k2] at hf'; cases hf'
    · refine QMn hf hf' ?_
      have a := h3 _ k1 hf'
      have b := k3 _ h1 hf
      rw [QMm] at b
      omega
theorem Bst.perm {l l' : List feed_plan} (hp : l'.Perm l) {B : feed_plan} (h : Bst l B) : Bst l' B := by
  rcases h with ⟨h1, h2⟩ | ⟨h1, h2, h3⟩
  · exact .inl ⟨fun p hm => h1 p (hp.subset hm), h2⟩
  · exact .inr ⟨hp.symm.subset h1, h2, fun q hq => h3 q (hp.subset hq)⟩
theorem Bst.flat {α : Type} {ks : List α} {f : α → List feed_plan} {g : α → feed_plan} (hg : ∀ k ∈ ks, Bst (f k) (g k)) {B : feed_plan} (h : Bst (ks.map g) B) : Bst (ks.flatMap f) B := by
  rcases h with ⟨h1, h2⟩ | ⟨h1, h2, h3⟩
  · refine .inl ⟨fun p hp => ?_, h2⟩
    obtain ⟨k, hk, hp⟩ := List.mem_flatMap.1 hp
    rcases hg k hk with ⟨a, _⟩ | ⟨_, a, _⟩
    · exact a p hp
    · rw [h1 _ (List.mem_map.2 ⟨k, hk, rfl⟩)] at a; cases a
  · obtain ⟨k, hk, rfl⟩ := List.mem_map.1 h1
    rcases hg k hk with ⟨_, a⟩ | ⟨a1, a2, a3⟩
    · rw [a] at h2; cases h2
    · refine .inr ⟨List.mem_flatMap.2 ⟨k, hk, a1⟩, h2, fun q hq hf => ?_⟩
      obtain ⟨j, hj, hq⟩ := List.mem_flatMap.1 hq
      rcases hg j hj with ⟨b, _⟩ | ⟨b1, b2, b3⟩
      · rw [b q hq] at hf; cases hf
      · exact QMo (h3 _ (List.mem_map.2 ⟨j, hj, rfl⟩) b2) (b3 q hq hf)
end Go.Gw

end
section
set_option maxRecDepth 4096
namespace Go.Gw
open Go
/-! ### Names are apart -/
theorem QAg {α : Type} {p : α → Bool} : ∀ (l : List α) (k m : Nat) (hk : k < l.length), p l[k] = true → (l.take k).any p = false → X2 p (fun k _ => (k : Int)) m l = .inl ((m + k : Nat) : Int)
  | x :: xs, 0, m, _, hp, _ => by simp at hp; simp [X2, hp]
  | x :: xs, k + 1, m, hk, hp, ha => by
    simp only [List.take_succ_cons, List.any_cons, Bool.or_eq_false_iff] at ha
    simp only [X2, ha.1]
    have := QAg xs k (m + 1) (by simpa using hk) (by simpa using hp) ha.2
    rw [← show m + 1 + k = m + (k + 1) by omega]
    simpa using this
theorem Qxt {n : FeedNet} (h : (ZT n).2 = 0) {k : Nat} (hk : k < n.Trains.length) : YB n n.Trains[k].Name = (k : Int) := by
  have h0 : ZH n k = 0 := by
    unfold ZT at h
    split at h
    · cases h
    · split at h
      · cases h
      · rcases Qav (ZX n) n.Stations.length with ⟨a1, a2⟩ | ⟨i, a1, a2, a3, _⟩
        · rw [a1] at h
          rcases Qav (ZW n) n.Sections.length with ⟨b1, b2⟩ | ⟨i, b1, b2, b3, _⟩
          · rw [b1] at h
            rcases Qav (ZH n) n.Trains.length with ⟨c1, c2⟩ | ⟨i, c1, c2, c3, _⟩
            · exact c2 k hk
            · rw [c1] at h; exact absurd h c3
          · rw [b1] at h; exact absurd h b3
        · rw [a1] at h; exact absurd h a3
  rw [show ZH n k = trE n.Trains[k] ((n.Trains.take k).map (·.Name)) n.Sections.length from Jn _ _ _ hk] at h0
  unfold trE at h0
  split at h0
  · rename_i hc; exact absurd h0 hc
  · rename_i hc
    have hc : Jq n.Trains[k].Name ((n.Trains.take k).map (·.Name)) = 0 := by
      rcases Decidable.em (Jq n.Trains[k].Name ((n.Trains.take k).map (·.Name)) = 0) with h | h
      · exact h
      · exact absurd h hc
    unfold Jq at hc
    split at hc
    · cases hc
    · split at hc
      · cases hc
      · rename_i ha
        rw [Qlj, Bool.not_eq_true] at ha
        unfold YB
        rw [QAg n.Trains k 0 hk (by simp) ha]
        simp
structure Trs (n : FeedNet) (ts : List FeedTrain) : Prop where
  ne : NetOk n
  ru : ∀ t ∈ ts, ∀ a : Int, X9 n (FeedDeparture.mk t.Name a) = feed_run.mk t a
  ok : ∀ t ∈ ts, J4 t n.Sections.length = 0
theorem QQw {n : FeedNet} (h : (ZT n).2 = 0) : Trs n n.Trains := by
  refine ⟨Qoj h, fun t ht a => ?_, (Qoj h).tr⟩
  obtain ⟨k, hk, rfl⟩ := List.mem_iff_getElem.1 ht
  unfold X9
  simp only [Qxt h hk, Int.toNat_natCast, List.getElem?_eq_getElem hk, Option.getD_some]
theorem Trs.tail {n : FeedNet} {t : FeedTrain} {ts : List FeedTrain} (h : Trs n (t :: ts)) : Trs n ts := ⟨h.ne, fun x hx => h.ru x (List.mem_cons_of_mem _ hx), fun x hx => h.ok x (List.mem_cons_of_mem _ hx)⟩
end Go.Gw

end
section
set_option maxRecDepth 4096
namespace Go.Gw
open Go
/-! ### Departures that fit -/
def Fits : List FeedTrain → List FeedDeparture → Prop
  | [], [] => True
  | t :: ts, d :: ds => (d.Train = t.Name ∧ t.Earliest ≤ d.At ∧ d.At ≤ t.Latest) ∧ Fits ts ds
  | _, _ => False
theorem Fits.len : ∀ {ts : List FeedTrain} {r : List FeedDeparture}, Fits ts r → r.length = ts.length
  | [], [], _ => rfl
  | _ :: _, _ :: _, h => by simp [Fits.len h.2]
theorem Fits.get : ∀ {ts : List FeedTrain} {r : List FeedDeparture}, Fits ts r → ∀ k (hk : k < r.length) (hk2 : k < ts.length), r[k].Train = ts[k].Name ∧ ts[k].Earliest ≤ r[k].At ∧ r[k].At ≤ ts[k].Latest
  | [], [], _, k, hk, _ => by simp at hk
  | _ :: _, _ :: _, h, 0, _, _ => h.1
  | _ :: _, _ :: _, h, k + 1, hk, hk2 => Fits.get h.2 k (by simpa using hk) (by simpa using hk2)
theorem Fits.eq : ∀ {ts : List FeedTrain} {r s : List FeedDeparture}, Fits ts r → Fits ts s → r.map (·.At) = s.map (·.At) → r = s
  | [], [], [], _, _, _ => rfl
  | _ :: _, ⟨a, b⟩ :: r, ⟨c, d⟩ :: s, h1, h2, h => by
    simp only [List.map_cons, List.cons.injEq] at h
    have e1 := h1.1.1
    have e2 := h2.1.1
    simp only at e1 e2
    rw [Fits.eq h1.2 h2.2 h.2, e1, e2, h.1]
theorem Fits.rt {n : FeedNet} (h : (ZT n).2 = 0) (hs : n.Trains.length < 1000) {p : List FeedDeparture} (hp : Fits n.Trains p) : Rt n p := by
  have hT := QQw h
  refine ⟨hT.ne, hs, by rw [hp.len]; exact hT.ne.tr6, fun d hd => ?_⟩
  obtain ⟨k, hk, rfl⟩ := List.mem_iff_getElem.1 hd
  have hk2 : k < n.Trains.length := by rw [← hp.len]; exact hk
  have hg := hp.get k hk hk2
  have ht := QBf (hT.ok _ (List.getElem_mem hk2))
  have e : X9 n p[k] = feed_run.mk n.Trains[k] p[k].At := by
    rw [← hT.ru _ (List.getElem_mem hk2), ← hg.1]
  refine ⟨?_, by rw [hg.1, Qxt h hk2]; omega⟩
  rw [e]
  exact ⟨ht.2.2.2.2.2, ht.2.2.2.2.1, by show 0 ≤ p[k].At; omega, by show p[k].At ≤ 1000; omega⟩
end Go.Gw

end
section
set_option maxRecDepth 4096
namespace Go.Gw
open Go
def inW (w : FeedWindow) (t : Int) : Prop := w.Ticks.Lo ≤ t ∧ t ≤ w.Ticks.Hi
instance (w : FeedWindow) (t : Int) : Decidable (inW w t) := inferInstanceAs (Decidable (_ ∧ _))
section
variable {n : FeedNet} (hn : NetOk n) (w : FeedWindow)
include hn
variable (hs : 0 ≤ w.Station ∧ w.Station ≤ (n.Stations.length : Int) - 1) (ht : 0 ≤ w.Ticks.Lo ∧ w.Ticks.Lo ≤ w.Ticks.Hi ∧ w.Ticks.Hi ≤ 100000)
include hs ht
end
end Go.Gw

end
section
set_option maxRecDepth 4096
namespace Go.Gw
open Go
section
variable {n : FeedNet} (hn : NetOk n)
include hn
end
def J3 (r : Range) : Int := if ZD r.Lo ≠ 0 then 2 else if ZD r.Hi ≠ 0 then 2 else if r.Lo ≤ r.Hi then 0 else 9
theorem Qkm (t : Int) : ZD t = 0 ∨ ZD t = 2 := by unfold ZD; split <;> simp
theorem QEq (r : Range) : Qfi r = some (J3 r) := by
  unfold Qfi J3
  rw [Qmj, QJ, Qmj, QJ, J5, QJ, JY _ (by simp), QJ, QJa]
  rcases Qkm r.Lo with h1 | h1 <;> rcases Qkm r.Hi with h2 | h2 <;> by_cases h3 : r.Lo ≤ r.Hi <;> simp [h1, h2, h3]
theorem Qkn {t : Int} (h : ZD t = 0) : 0 ≤ t ∧ t ≤ 1012 := by
  unfold ZD at h; split at h; assumption; cases h
theorem QQr {r : Range} (h : J3 r = 0) : 0 ≤ r.Lo ∧ r.Lo ≤ r.Hi ∧ r.Hi ≤ 1012 := by
  have a : ZD r.Lo = 0 := by
    rcases Qkm r.Lo with h1 | h1
    · exact h1
    · simp [J3, h1] at h
  have b : ZD r.Hi = 0 := by
    rcases Qkm r.Hi with h1 | h1
    · exact h1
    · simp [J3, a, h1] at h
  have c : r.Lo ≤ r.Hi := by
    rcases Decidable.em (r.Lo ≤ r.Hi) with h1 | h1
    · exact h1
    · simp [J3, a, b, h1] at h
  have a1 := Qkn a
  have b1 := Qkn b
  omega
end Go.Gw

end
section
set_option maxRecDepth 4096
namespace Go.Gw
open Go
def gF (n : FeedNet) (P : Nat → Int) (j : Nat) : Int := (n.Sections[j]?.map fun s => 1000 * Xz (Xv s (P j))).getD 0
def gL (n : FeedNet) (P : Nat → Int) (j : Nat) : Int := (n.Sections[j]?.map fun s => 1000 * s.Loss * YP (P j)).getD 0
def gW (n : FeedNet) (w : Bool) (P : Nat → Int) (j : Nat) : Int := (n.Sections[j]?.map fun s => QI (gK n s (Xv s (P j)) w) n.Stations.length).getD 0
section
variable {n : FeedNet} (hn : NetOk n) {P : Nat → Int} (hP : ∀ j, -160000 ≤ P j ∧ P j ≤ 160000)
include hn hP
theorem Qfz {j : Nat} (hj : j < n.Sections.length) : Jy n.Sections[j] := Qck (hn.sec _ (List.getElem_mem hj))
theorem Qnt (j : Nat) : -240000000000 ≤ gF n P j ∧ gF n P j ≤ 240000000000 := by
  unfold gF
  by_cases hj : j < n.Sections.length
  · rw [List.getElem?_eq_getElem hj]
    have h1 := Qda (Qfz hn hP hj) (hP j)
    have := Qfr (x := Xv n.Sections[j] (P j)) (c := 240000000) (by omega) h1.2
    simp only [Option.map_some, Option.getD_some]; omega
  · rw [List.getElem?_eq_none (Nat.le_of_not_lt hj)]; simp
theorem Qwi {j : Nat} (hj : j < n.Sections.length) : 0 ≤ 1000 * n.Sections[j].Loss ∧ 1000 * n.Sections[j].Loss ≤ 500000 ∧ -80000000000 ≤ 1000 * n.Sections[j].Loss * YP (P j) ∧ 1000 * n.Sections[j].Loss * YP (P j) ≤ 80000000000 := by
  obtain ⟨_, h1, h2⟩ := Qfz hn hP hj
  have h3 := Qwo (hP j)
  have := Qbj (a := 1000 * n.Sections[j].Loss) (b := YP (P j)) (m := 500000) (n := 160000) (by omega) (by omega)
  omega
theorem Qvs (j : Nat) : -80000000000 ≤ gL n P j ∧ gL n P j ≤ 80000000000 := by
  unfold gL
  by_cases hj : j < n.Sections.length
  · rw [List.getElem?_eq_getElem hj]
    exact (Qwi hn hP hj).2.2
  · rw [List.getElem?_eq_none (Nat.le_of_not_lt hj)]; simp
theorem Qih (w : Bool) (j : Nat) : -1440000000000 ≤ gW n w P j ∧ gW n w P j ≤ 1440000000000 := by
  unfold gW
  by_cases hj : j < n.Sections.length
  · rw [List.getElem?_eq_getElem hj]
    have := Jv (fun k => Qnu n (Qfz hn hP hj) (Qda (Qfz hn hP hj) (hP j)) w k) n.Stations.length
    have := hn.st6
    simp only [Option.map_some, Option.getD_some]; omega
  · rw [List.getElem?_eq_none (Nat.le_of_not_lt hj)]; simp
theorem QCw {f l u b : Int} (hf : -100000000000000000 ≤ f ∧ f ≤ 100000000000000000) (hl : -100000000000000000 ≤ l ∧ l ≤ 100000000000000000) (hu : -100000000000000000 ≤ u ∧ u ≤ 100000000000000000) (hb : -100000000000000000 ≤ b ∧ b ≤ 100000000000000000) :
    loop (Qde n ((List.range n.Sections.length).map P)) (0, f, l, u, b) = some (f + QI (gF n P) n.Sections.length, l + QI (gL n P) n.Sections.length, u + QI (gW n true P) n.Sections.length, b + QI (gW n false P) n.Sections.length) := by
  have hlen : (((List.range n.Sections.length).map P).length : Int) = (n.Sections.length : Int) := by simp
  have h10 := hn.se10
  have key := JK (step := Qde n ((List.range n.Sections.length).map P)) (o := (f + QI (gF n P) n.Sections.length, l + QI (gL n P) n.Sections.length, u + QI (gW n true P) n.Sections.length, b + QI (gW n false P) n.Sections.length))
    (fun k => ((k : Int), f + QI (gF n P) k, l + QI (gL n P) k, u + QI (gW n true P) k, b + QI (gW n false P) k)) n.Sections.length (fun k hk => by
    have b1 := Jv (fun j => Qnt hn hP j) k
    have b2 := Jv (fun j => Qvs hn hP j) k
    have b3 := Jv (fun j => Qih hn hP true j) k
    have b4 := Jv (fun j => Qih hn hP false j) k
    have c1 := Qnt hn hP k
    have c2 := Qwi hn hP hk
    have hs := Qfz hn hP hk
    have hd := Qda hs (hP k)
    have hPk := hP k
    have hidx : idx ((List.range n.Sections.length).map P) (k : Int) = some (P k) := by rw [X5?]; simp [hk]
    have eF : gF n P k = 1000 * Xz (Xv n.Sections[k] (P k)) := by unfold gF; rw [List.getElem?_eq_getElem hk]; rfl
    have eL : gL n P k = 1000 * n.Sections[k].Loss * YP (P k) := by unfold gL; rw [List.getElem?_eq_getElem hk]; rfl
    have eW : ∀ w, gW n w P k = QI (gK n n.Sections[k] (Xv n.Sections[k] (P k)) w) n.Stations.length := by intro w; unfold gW; rw [List.getElem?_eq_getElem hk]; rfl
    unfold Qde
    simp only [hlen, Yg hk, cond_true, X5 hk, hidx, QJ]
    rw [Qsg hs (hP k), QJ, QCv hn.st6 hs hd (by omega) (by omega), QJ, XJ (x := 0 - P k) (by omega), show (0 : Int) - P k = -P k by omega]
    have e1 : (1000 * if Xv n.Sections[k] (P k) < 0 then 0 else Xv n.Sections[k] (P k)) = gF n P k := eF.symm
    have e2 : (if P k < -P k then -P k else P k) = YP (P k) := rfl
    rw [e1, e2, XJ (x := 1000 * n.Sections[k].Loss) (by omega), ← eL]
    rw [← eL] at c2
    rw [XJ (x := gF n P k) (by omega), XJ (x := gL n P k) (by omega), XJ (x := f + QI (gF n P) k + gF n P k) (by omega), XJ (x := l + QI (gL n P) k + gL n P k) (by omega), Yk k (by omega), ← eW, ← eW]
    simp only [QI, Int.add_assoc]) (by
    unfold Qde
    simp only [hlen, Yh, cond_false])
  simpa [QI] using key
end
def tk (n : FeedNet) (R : List feed_run) (lo : Int) : Nat → Nat → Int
  | 0, i => QI (gF n (Q7 R (lo + (i : Int)))) n.Sections.length
  | 1, i => fR fU R (lo + (i : Int))
  | 2, i => fR fB R (lo + (i : Int))
  | 3, i => QI (gL n (Q7 R (lo + (i : Int)))) n.Sections.length
  | 4, i => QI (gW n true (Q7 R (lo + (i : Int)))) n.Sections.length
  | _, i => QI (gW n false (Q7 R (lo + (i : Int)))) n.Sections.length
def Y0 (n : FeedNet) (R : List feed_run) (lo : Int) (k : Nat) : FeedBook := FeedBook.mk (QI (tk n R lo 0) k) (QI (tk n R lo 1) k) (QI (tk n R lo 2) k) (QI (tk n R lo 3) k) (QI (tk n R lo 4) k) (QI (tk n R lo 5) k)
section
variable {n : FeedNet} (hn : NetOk n) {R : List feed_run} (hR : ∀ r ∈ R, YV n.Sections.length r) (hl : R.length ≤ 8)
include hn hR hl
theorem Qix (t : Int) (j : Nat) : -160000 ≤ Q7 R t j ∧ Q7 R t j ≤ 160000 := by have := Qov hR t j; omega
theorem QQs (lo : Int) (q i : Nat) : -14400000000000 ≤ tk n R lo q i ∧ tk n R lo q i ≤ 14400000000000 := by
  have h10 := hn.se10
  have hP := Qix hn hR hl (lo + (i : Int))
  unfold tk
  split
  · have := Jv (fun j => Qnt hn hP j) n.Sections.length; omega
  · have := Qbf (f := fU) (fun x h => Qhs h) (lo + (i : Int)) hR; omega
  · have := Qbf (f := fB) (fun x h => Qdb h) (lo + (i : Int)) hR; omega
  · have := Jv (fun j => Qvs hn hP j) n.Sections.length; omega
  · have := Jv (fun j => Qih hn hP true j) n.Sections.length; omega
  · have := Jv (fun j => Qih hn hP false j) n.Sections.length; omega
theorem QCx (e : Int) {x : Range} (h0 : 0 ≤ x.Lo) (h1 : x.Lo ≤ x.Hi) (h2 : x.Hi ≤ 1012) :
    loop (Qdf n x (⟨n⟩, R, e)) (x.Lo, 0, 0, 0, 0, 0, 0) = some ((fun b : FeedBook => (b.Fed, b.Used, b.Braked, b.Lost, b.Back, b.Burned)) (Y0 n R x.Lo (x.Hi - x.Lo + 1).toNat)) := by
  have key := JK (step := Qdf n x (⟨n⟩, R, e)) (o := (fun b : FeedBook => (b.Fed, b.Used, b.Braked, b.Lost, b.Back, b.Burned)) (Y0 n R x.Lo (x.Hi - x.Lo + 1).toNat))
    (fun k => (x.Lo + (k : Int), QI (tk n R x.Lo 0) k, QI (tk n R x.Lo 1) k, QI (tk n R x.Lo 2) k, QI (tk n R x.Lo 3) k, QI (tk n R x.Lo 4) k, QI (tk n R x.Lo 5) k)) (x.Hi - x.Lo + 1).toNat (fun k hk => by
    have hb := fun q => Jv (fun j => QQs hn hR hl x.Lo q j) k
    have b0 := hb 0
    have b1 := hb 1
    have b2 := hb 2
    have b3 := hb 3
    have b4 := hb 4
    have b5 := hb 5
    have hk2 : k ≤ 1012 := by omega
    unfold Qdf
    simp only []
    rw [decide_eq_true (show x.Lo + (k : Int) ≤ x.Hi by omega), cond_true, QCu _ e hR hl (by omega) (by omega) (by omega) (by omega), QJ,
      show feed_net.mk (FeedNet.mk n.Stations n.Sections n.Trains) = feed_net.mk n from rfl, Qxz (by have := hn.se10; omega) hl hR (by omega) (by omega), QJ,
      QCw hn (Qix hn hR hl _) (by omega) (by omega) (by omega) (by omega), QJ, XJ (x := x.Lo + (k : Int) + 1) (by omega), show x.Lo + (k : Int) + 1 = x.Lo + ((k + 1 : Nat) : Int) by omega]
    rfl) (by
    unfold Qdf
    simp only []
    rw [decide_eq_false (by omega), cond_false]
    rfl)
  simpa [QI] using key
end
theorem QBu {n : FeedNet} (h : NetS n) (l : List FeedDeparture) (x : Range) : J9 n l x = some (if Jj n l ≠ 0 then (FeedBook.mk 0 0 0 0 0 0, Jj n l) else if J3 x ≠ 0 then (FeedBook.mk 0 0 0 0 0 0, J3 x) else (Y0 n (l.map (X9 n)) x.Lo (x.Hi - x.Lo + 1).toNat, 0)) := by
  unfold J9
  rw [Qxq h, QJ, QEq, QJ, JY _ (by simp), QJ, Qvq]
  by_cases hb : Jj n l = 0
  · by_cases ht : J3 x = 0
    · obtain ⟨hn, hl, hd⟩ := Qlu hb
      obtain ⟨h0, h1, h2⟩ := QQr ht
      simp only [hb, ht, ne_eq, not_true_eq_false, if_false, if_true, decide_true, Bool.not_true, cond_false]
      rw [QCx hn (fun r hr => by obtain ⟨d, hd2, rfl⟩ := List.mem_map.1 hr; exact (hd d hd2).1) (by rw [List.length_map]; omega) 0 h0 h1 h2]
      rfl
    · simp [hb, ht]
  · simp [hb]
end Go.Gw

end
section
set_option maxRecDepth 4096
namespace Go.Gw
open Go
/-! ### What is drawn, section by section or train by train -/
theorem QAj (a v : Int) (ha : 0 ≤ a) : ∀ k : Nat, QI (fun j => if a = (j : Int) then v else 0) k = if a < (k : Int) then v else 0
  | 0 => by simp only [QI]; rw [if_neg (by omega)]
  | k + 1 => by
    simp only [QI]; rw [QAj a v ha k]
    by_cases h1 : a < (k : Int)
    · rw [if_pos h1, if_neg (by omega), if_pos (by omega)]; omega
    · rw [if_neg h1]
      by_cases h2 : a = (k : Int)
      · rw [if_pos h2, if_pos (by omega)]; omega
      · rw [if_neg h2, if_neg (by omega)]; rfl
theorem QPu {f : Int → Int} (f0 : f 0 = 0) {m : Nat} {r : feed_run} (h : YV m r) (t : Int) : QI (fun j => ((pd t j r).map f).sum) m = f (Yu t r) := by
  by_cases hin : 0 ≤ t - r.at_ ∧ t - r.at_ ≤ (r.FeedTrain.Steps.length : Int) - 1
  · have hk : (t - r.at_).toNat < r.FeedTrain.Steps.length := by omega
    have hb := h.1 _ (List.getElem_mem hk)
    have e : (fun j : Nat => ((pd t j r).map f).sum) = fun j : Nat => if r.FeedTrain.Steps[(t - r.at_).toNat].Section = (j : Int) then f r.FeedTrain.Steps[(t - r.at_).toNat].Power else 0 := by
      funext j
      unfold pd
      rw [if_pos hin, List.getElem?_eq_getElem hk]
      simp only []
      by_cases hj : r.FeedTrain.Steps[(t - r.at_).toNat].Section = (j : Int)
      · rw [if_pos hj, if_pos hj]; simp
      · rw [if_neg hj, if_neg hj]; rfl
    rw [e, QAj _ _ hb.1, if_pos (by omega)]
    unfold Yu
    rw [if_pos hin, List.getElem?_eq_getElem hk]
  · rw [Qps (fun j => by unfold pd; rw [if_neg hin]; rfl)]
    unfold Yu
    rw [if_neg hin, f0]
theorem Qkd {f : Int → Int} (f0 : f 0 = 0) {m : Nat} (t : Int) : ∀ {R : List feed_run}, (∀ r ∈ R, YV m r) → QI (fun j => ((R.flatMap (pd t j)).map f).sum) m = fR f R t
  | [], _ => Qps (g := fun j => ((([] : List feed_run).flatMap (pd t j)).map f).sum) (fun _ => rfl) m
  | r :: R, h => by
    have e : (fun j : Nat => (((r :: R).flatMap (pd t j)).map f).sum) = fun j : Nat => ((pd t j r).map f).sum + ((R.flatMap (pd t j)).map f).sum := by
      funext j; rw [List.flatMap_cons, List.map_append, List.sum_append]
    rw [e, Qgg, QPu f0 (h r List.mem_cons_self), Qkd f0 t fun r hr => h r (List.mem_cons_of_mem _ hr)]
    unfold fR
    rw [List.map_cons, List.sum_cons]
section
variable {n : FeedNet} {l : List FeedDeparture} (h : Rt n l)
include h
end
end Go.Gw

end
