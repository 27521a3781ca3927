/- Laws of the walk. Condition: each theorem says its own. -/
import Derived.Test.YtbplgfhjpeeieaaGwTwin
import Derived.Test.YtbplgfhjpeeieaaGwPlan
import Derived.IntWalk
set_option linter.unusedVariables false
set_option linter.unusedSimpArgs false
set_option linter.unusedSectionVars false
section
set_option maxRecDepth 1000000
namespace Go.Gw
open Go
theorem QBw : Qvg 60 = some true := by decide +kernel
theorem QBv : Qig = some true := QJm _ QBw
end Go.Gw

end
section
set_option linter.unusedSectionVars false
namespace Go.Gw
open Go

theorem XK {x : Int} (h : -9223372036854775808 ≤ x ∧ x ≤ 9223372036854775807) : w64 x = x := Go.IntWalk.i64_in x h

def Runs {α : Type} (e : Option α) (Q : α → Prop) : Prop := ∃ a, e = some a ∧ Q a

section
variable {α β σ μ : Type} {Q : α → Prop} {e e' : Option α}
theorem Runs.some {a : α} (h : Q a) : Runs (some a) Q := ⟨a, rfl, h⟩
theorem Runs.bind {e : Option β} {f : β → Option α} (h : Runs e fun b => Runs (f b) Q) : Runs (e.bind f) Q := by
  obtain ⟨b, rfl, a, ha, hq⟩ := h; exact ⟨a, ha, hq⟩
theorem Runs.mono {Q' : α → Prop} (h : Runs e Q) (hm : ∀ a, Q a → Q' a) : Runs e Q' := by obtain ⟨a, ha, hq⟩ := h; exact ⟨a, ha, hm _ hq⟩
theorem Runs.eq {a : α} (h : Runs e (· = a)) : e = .some a := by obtain ⟨b, hb, rfl⟩ := h; exact hb
theorem Runs.call {e : Option β} {f : β → Option α} {b : β} (h : e = .some b) (hq : Runs (f b) Q) : Runs (e.bind f) Q := by subst h; exact hq
theorem Runs.bif {b : Bool} (ht : b = true → Runs e Q) (hf : b = false → Runs e' Q) : Runs (bif b then e else e') Q := by
  cases b
  · exact hf rfl
  · exact ht rfl
theorem Runs.jl {b : α} {f : μ → Option α} (h : Q b) : Runs (jn0 (.inl b) f) Q := ⟨b, rfl, h⟩
theorem Runs.j {o : α ⊕ μ} {f : μ → Option α} (hl : ∀ b, o = .inl b → Q b) (hr : ∀ m, o = .inr m → Runs (f m) Q) : Runs (jn0 o f) Q := by
  cases o with
  | inl b => exact Runs.jl (hl b rfl)
  | inr m => exact hr m rfl

def Rnd (I : σ → Prop) (m : σ → Nat) (Q : β → Prop) (s : σ) : σ ⊕ β → Prop
  | .inl s' => I s' ∧ m s' < m s
  | .inr o => Q o
theorem Runs.loop {step : σ → Option (σ ⊕ β)} {s : σ} {Q : β → Prop} (I : σ → Prop) (m : σ → Nat) (h0 : I s) (h : ∀ s, I s → Runs (step s) (Rnd I m Q s)) : Runs (Gw.loop step s) Q := by
  generalize hk : m s = k
  induction k using Nat.strongRecOn generalizing s with
  | _ k ih =>
    obtain ⟨x, hx, hq⟩ := h s h0
    cases x with
    | inl s' =>
      rw [Qfh hx]
      exact ih (m s') (by have := hq.2; omega) hq.1 rfl
    | inr o => rw [J2 hx]; exact ⟨o, rfl, hq⟩
theorem Zm {step : σ → Option (σ ⊕ β)} {o : β} (S : Nat → σ) (n : Nat) (h : ∀ k, k < n → step (S k) = .some (.inl (S (k + 1)))) (he : step (S n) = .some (.inr o)) : Gw.loop step (S 0) = .some o := by
  have key : ∀ j k, j + k = n → Gw.loop step (S k) = .some o := by
    intro j
    induction j with
    | zero => intro k hk; obtain rfl : k = n := by omega
              exact J2 he
    | succ j ih => intro k hk; rw [Qfh (h k (by omega))]; exact ih (k + 1) (by omega)
  exact key n 0 (by omega)

theorem Runs.idx {xs : List β} {i : Int} {f : β → Option α} (h0 : 0 ≤ i) (h1 : i < xs.length) (h : ∀ x, xs[i.toNat]? = .some x → Runs (f x) Q) : Runs ((Gw.idx xs i).bind f) Q := by
  have hl : i.toNat < xs.length := by omega
  have e : Gw.idx xs i = .some xs[i.toNat] := by unfold Gw.idx; rw [if_pos h0, List.getElem?_eq_getElem hl]
  exact Runs.call e (h _ (List.getElem?_eq_getElem hl))
theorem Xs {xs : List β} {k : Nat} (h : k < xs.length) : Gw.idx xs (k : Int) = .some xs[k] := by
  unfold Gw.idx; rw [if_pos (by omega), Int.toNat_natCast, List.getElem?_eq_getElem h]
theorem Xs? {xs : List β} {k : Nat} : Gw.idx xs (k : Int) = xs[k]? := by
  unfold Gw.idx; rw [if_pos (by omega), Int.toNat_natCast]
theorem Jl {xs ys : List β} (h : xs.length + ys.length ≤ 1073741824) : app xs ys = .some (xs ++ ys) := by unfold app; rw [if_pos h]
end
end Go.Gw

end
section
set_option linter.unusedSectionVars false
namespace Go.Gw
section
variable {α β γ σ ρ : Type}
def XR (p : α → Bool) (res : Nat → α → ρ) : Nat → List α → ρ ⊕ Unit
  | _, [] => .inr ()
  | k, x :: xs => if p x then .inl (res k x) else XR p res (k + 1) xs
theorem Zv {step : Int → Option (Int ⊕ (ρ ⊕ Unit))} (xs : List α) (p : α → Bool) (res : Nat → α → ρ)
    (hs : ∀ k (hk : k < xs.length), step (k : Int) = (bif p xs[k] then some (.inr (.inl (res k xs[k]))) else some (.inl ((k + 1 : Nat) : Int))))
    (he : step (xs.length : Int) = some (.inr (.inr ()))) : loop step 0 = some (XR p res 0 xs) := by
  have key : ∀ j k, j + k = xs.length → loop step (k : Int) = some (XR p res k (xs.drop k)) := by
    intro j
    induction j with
    | zero =>
      intro k hk
      obtain rfl : k = xs.length := by omega
      rw [List.drop_length]
      exact J2 he
    | succ j ih =>
      intro k hk
      have hlt : k < xs.length := by omega
      rw [List.drop_eq_getElem_cons hlt]
      have := hs k hlt
      cases hp : p xs[k] with
      | true => rw [hp] at this; simp only [XR, hp, if_true]; exact J2 this
      | false => rw [hp] at this; simp only [XR, hp]; rw [Qfh this]; exact ih (k + 1) (by omega)
  have := key xs.length 0 (by omega)
  simpa using this

def fld (f : Nat → γ → α → γ) : Nat → γ → List α → γ
  | _, a, [] => a
  | k, a, x :: xs => fld f (k + 1) (f k a x) xs
def rng (f : Nat → γ → γ) (a : γ) : Nat → γ
  | 0 => a
  | n + 1 => f n (rng f a n)
theorem XP (k : Nat) (h : k < 4611686018427387904) : w64 ((k : Int) + 1) = ((k + 1 : Nat) : Int) := by rw [XK (by omega)]; omega
theorem XN {k n : Nat} (h : k < n) : decide ((k : Int) < (n : Int)) = true := by simp; omega
theorem XO (n : Nat) : decide ((n : Int) < (n : Int)) = false := by simp
end
end Go.Gw

end
section
set_option maxRecDepth 4096
namespace Go.Gw
open Go

def Zk : List Int → Int
  | [] => 0
  | x :: xs => if x = 0 then Zk xs else x
theorem JZ (l : List Int) (hl : l.length < 1073741824) : Zb l = some (Zk l) := by
  unfold Zb
  rw [Zv l (fun x => !decide (x = 0)) (fun _ x => x)]
  · have key : ∀ (l : List Int) k, (jn0 (XR (fun x => !decide (x = 0)) (fun _ x => x) k l) fun (_ : Unit) => some 0) = some (Zk l) := by
      intro l
      induction l with
      | nil => intro k; rfl
      | cons x xs ih =>
        intro k
        by_cases h : x = 0
        · simp [XR, Zk, h]; exact ih _
        · simp [XR, Zk, h, jn0]
    simpa using key l 0
  · intro k hk
    unfold Qhm
    rw [XN hk, Xs hk, XP k (by omega)]; rfl
  · unfold Qhm
    rw [XO]; rfl
theorem ZU (b : Bool) (e : Int) : Yb b e = some (bif b then 0 else e) := by cases b <;> rfl
theorem Qac (n lo hi : Int) : Zu n lo hi = some (decide (lo ≤ n) && decide (n ≤ hi)) := rfl
theorem Qbp (n lo hi : Int) : Z0 n lo hi = some (decide (lo ≤ n) && decide (n ≤ hi)) := rfl
theorem QPx (n m : Int) (h : 0 ≤ m) (h2 : m ≤ 9223372036854775807) : Qcw n m = some (decide (-m ≤ n) && decide (n ≤ m)) := by
  unfold Qcw
  rw [XK (by omega), Qac, Int.zero_sub]; rfl
theorem Qga {α : Type} (p : α → Bool) : ∀ (l : List α) (k : Nat), (jn0 (β := Int) (XR p (fun k _ => (k : Int)) k l) fun (_ : Unit) => some (-1)) = some (match XR p (fun k _ => (k : Int)) k l with | .inl i => i | .inr _ => -1)
  | l, k => by cases XR p (fun k _ => (k : Int)) k l <;> rfl
theorem Qjw {α : Type} (p : α → Bool) : ∀ (l : List α) (k : Nat), decide (0 ≤ (match XR p (fun k _ => (k : Int)) k l with | .inl i => i | .inr _ => (-1 : Int))) = l.any p
  | [], k => by simp [XR]
  | x :: xs, k => by
    by_cases h : p x = true
    · simp [XR, h]
    · simp only [XR, h, List.any_cons]
      have := Qjw p xs (k + 1)
      simpa [h] using this
theorem Qaq {α ρ : Type} {p : α → Bool} {res : Nat → α → ρ} : ∀ (l : List α) (k : Nat), (XR p res k l = .inr () ∧ l.any p = false) ∨ ∃ j x, XR p res k l = .inl (res j x) ∧ p x = true ∧ l.any p = true
  | [], k => .inl ⟨rfl, rfl⟩
  | x :: xs, k => by
    by_cases h : p x = true
    · exact .inr ⟨k, x, by simp [XR, h], h, by simp [h]⟩
    · rcases Qaq xs (k + 1) (p := p) (res := res) with ⟨h1, h2⟩ | ⟨j, y, h1, h2, h3⟩
      · exact .inl ⟨by simp [XR, h, h1], by simp [h, h2]⟩
      · exact .inr ⟨j, y, by simp [XR, h, h1], h2, by simp [h3]⟩
/-! ### Ladders -/
def QJi (l : FeedLadder) : Bool := (l.Ohms.any fun n => !(decide (1 ≤ n) && decide (n ≤ 500))) || (l.Loads.any fun n => !(decide (-20000 ≤ n) && decide (n ≤ 20000)))
def QSq (l : FeedLadder) : Int := if ¬ (0 < l.Loads.length ∧ l.Ohms.length = l.Loads.length + 1) then 10 else if 8 < l.Loads.length then 8 else if QJi l then 2 else 0
end Go.Gw

end
section
set_option maxRecDepth 4096
namespace Go.Gw
open Go
def X4 (f : Nat → Int) (n : Nat) : Option Nat := (List.range n).find? fun i => decide (f i ≠ 0)
theorem JY (f : Nat → Int) (n : Nat) : (X4 f n = none ∧ ∀ j, j < n → f j = 0) ∨ ∃ i, X4 f n = some i ∧ i < n ∧ f i ≠ 0 ∧ ∀ j, j < i → f j = 0 := by
  cases h : X4 f n with
  | none =>
    refine .inl ⟨rfl, fun j hj => ?_⟩
    have := List.find?_eq_none.1 h j (List.mem_range.2 hj)
    simpa using this
  | some i =>
    right
    obtain ⟨h1, h2, h3⟩ := List.find?_range_eq_some.1 h
    exact ⟨i, rfl, List.mem_range.1 h2, by simpa using h1, fun j hj => by have := h3 j hj; simpa using this⟩
theorem J1 {σ ρ μ : Type} {step : σ → Option (σ ⊕ (ρ ⊕ μ))} (S : Nat → σ) (n : Nat) (f : Nat → Int) (res : Nat → Int → ρ) (o : μ)
    (hs : ∀ k, k < n → (∀ j, j < k → f j = 0) → step (S k) = if f k = 0 then some (.inl (S (k + 1))) else some (.inr (.inl (res k (f k))))) (he : (∀ j, j < n → f j = 0) → step (S n) = some (.inr (.inr o))) :
    loop step (S 0) = some (match X4 f n with | some i => .inl (res i (f i)) | none => .inr o) := by
  rcases JY f n with ⟨h1, h2⟩ | ⟨i, h1, h2, h3, h4⟩
  · rw [h1]
    exact Zm S n (fun k hk => by rw [hs k hk fun j hj => h2 j (by omega), if_pos (h2 k hk)]) (he h2)
  · rw [h1]
    exact Zm S i (fun k hk => by rw [hs k (by omega) fun j hj => h4 j (by omega), if_pos (h4 k hk)]) (by rw [hs i h2 h4, if_neg h3])
/-! ### Names -/
def Qea (q : Int × Nat) : Bool := (!(((decide (97 ≤ q.1)) && (decide (q.1 ≤ 122))) || ((decide (65 ≤ q.1)) && (decide (q.1 ≤ 90))))) && ((decide ((q.2 : Int) = 0)) || ((!decide (q.1 = 45)) && ((decide (q.1 < 48)) || (decide (57 < q.1)))))
def bi (s : ByteArray) : List Int := bl s
theorem Qgv (s : ByteArray) : (bi s).length = s.size := Qax s
theorem Quz {s : ByteArray} {k : Nat} (h : k < (bi s).length) : idx (α := Int) (bl s) (k : Int) = some (bi s)[k] := Xs (xs := bi s) h
def Qbe (s : ByteArray) : Bool := decide (1 ≤ s.size) && (decide (s.size ≤ 12) && !((bi s).zipIdx.any Qea))
theorem Qyq (s : ByteArray) : s = ByteArray.mk #[] ↔ s.size = 0 := by
  constructor
  · intro h; subst h; rfl
  · intro h
    cases s with
    | mk d =>
      congr 1
      exact Array.eq_empty_of_size_eq_zero h
theorem Qqf (s : ByteArray) : Qeb s = some (Qbe s) := by
  unfold Qeb Qbe
  have hlen : (bi s).zipIdx.length = s.size := by rw [List.length_zipIdx, Qgv]
  by_cases h : 1 ≤ s.size ∧ s.size ≤ 12
  · have : (decide ((s.size : Int) < 1) || decide (12 < (s.size : Int))) = false := by
      rw [decide_eq_false (by omega), decide_eq_false (by omega)]; rfl
    rw [this, cond_false, Zv (bi s).zipIdx Qea (fun _ _ => false), Qw]
    · rcases Qaq (p := Qea) (res := fun _ _ => false) (bi s).zipIdx 0 with ⟨k1, k2⟩ | ⟨j, x, k1, k2, k3⟩
      · rw [k1, k2]; simp [h, jn0]
      · rw [k1, k3]; simp [jn0]
    · intro k hk
      rw [hlen] at hk
      unfold Qlg
      rw [XN hk, cond_true, Quz (show k < (bi s).length by rw [Qgv]; exact hk), Qw, XP k (by omega)]
      simp only [List.getElem_zipIdx, Nat.zero_add]
      rfl
    · rw [hlen]
      unfold Qlg
      rw [XO]; rfl
  · have : (decide ((s.size : Int) < 1) || decide (12 < (s.size : Int))) = true := by
      by_cases h1 : s.size < 1
      · rw [decide_eq_true (by omega)]; rfl
      · rw [decide_eq_true (p := 12 < (s.size : Int)) (by omega)]; simp
    rw [this, cond_true]
    congr 1
    by_cases h1 : 1 ≤ s.size
    · rw [decide_eq_false (p := s.size ≤ 12) (by omega)]; simp
    · rw [decide_eq_false h1]; rfl
theorem QDx (s : ByteArray) (hs : s.size ≤ 1000) : Qeo s = some (Qbe s) := by
  unfold Qeo Qbe
  have hlen : (bi s).zipIdx.length = s.size := by rw [List.length_zipIdx, Qgv]
  have ht : tob s = some (bl s) := by unfold tob; rw [if_pos (by omega)]
  rw [ht, Qw, Zv (bi s).zipIdx Qea (fun _ _ => false), Qw]
  · rcases Qaq (p := Qea) (res := fun _ _ => false) (bi s).zipIdx 0 with ⟨k1, k2⟩ | ⟨j, x, k1, k2, k3⟩
    · rw [k1, k2]
      simp only [jn0, Bool.not_false, Bool.and_true, Option.some.injEq]
      by_cases h0 : s.size = 0
      · rw [decide_eq_true ((Qyq s).2 h0), decide_eq_false (show ¬ 1 ≤ s.size by omega)]; rfl
      · rw [decide_eq_false (fun e => h0 ((Qyq s).1 e)), decide_eq_true (show 1 ≤ s.size by omega)]
        simp only [Bool.not_false, Bool.true_and]
        by_cases h1 : s.size ≤ 12
        · rw [decide_eq_true h1, decide_eq_true (by omega)]
        · rw [decide_eq_false h1, decide_eq_false (by omega)]
    · rw [k1, k3]; simp [jn0]
  · intro k hk
    rw [hlen] at hk
    have hk2 : k < (bl s).length := by rw [Qax]; exact hk
    unfold Qho
    rw [XN hk2, cond_true, Quz (show k < (bi s).length by rw [Qgv]; exact hk), Qw, XP k (by omega)]
    simp only [List.getElem_zipIdx, Nat.zero_add]
    rfl
  · rw [hlen, show (s.size : Int) = ((bl s).length : Int) by rw [Qax]]
    unfold Qho
    rw [XO]; rfl
theorem QCx (l : List ByteArray) (v : ByteArray) (hl : l.length < 1000000) : Qfv l v = some (l.any fun x => decide (v = x)) := by
  unfold Qfv Qjv
  rw [Zv l (fun x => decide (v = x)) (fun k _ => (k : Int)), Qw, Qga, Qw, Qjw]
  · intro k hk
    unfold Qju
    rw [XN hk, Xs hk, XP k (by omega)]; rfl
  · unfold Qju
    rw [XO]; rfl
def Z8 (s : ByteArray) (others : List ByteArray) : Int := if Qbe s = false then 4 else if (others.any fun x => decide (s = x)) = true then 5 else 0
theorem Qvz (s : ByteArray) (others : List ByteArray) (hs : s.size ≤ 1000) (hl : others.length < 1000000) : Qcn s others = some (Z8 s others) := by
  unfold Qcn Z8
  rw [QDx s hs, Qw, ZU, Qw, QCx _ _ hl, Qw, ZU, Qw, JZ _ (by simp), Qw]
  cases Qbe s <;> cases (others.any fun x => decide (s = x)) <;> simp [Zk]
end Go.Gw

end
section
set_option maxRecDepth 4096
namespace Go.Gw
open Go
theorem Qgw {α : Type} {c : Bool} {a b : α} : (bif c then some a else some b) = some (bif c then a else b) := by cases c <;> rfl
def Qyo (l r il ir eq sh lo s0 s1 : Bool) : Int := bif (!(l || il)) || !(r || ir) then 6 else bif l && r then 23 else bif eq then 26 else bif !(sh && lo) then 2 else bif (l && !s0) || (r && !s1) then 3 else 0
def Je (s : FeedSection) (n : Nat) : Int := Qyo (decide (s.Left = -1)) (decide (s.Right = -1)) (decide (0 ≤ s.Left) && decide (s.Left ≤ (n : Int) - 1)) (decide (0 ≤ s.Right) && decide (s.Right ≤ (n : Int) - 1)) (decide (s.Left = s.Right))
  (decide (0 ≤ s.Share) && decide (s.Share ≤ 1000)) (decide (0 ≤ s.Loss) && decide (s.Loss ≤ 500)) (decide (s.Share = 0)) (decide (s.Share = 1000))
theorem QEg (s : FeedSection) (n : Nat) (hn : n < 1000) : Qfb s (n : Int) = some (Je s n) := by
  unfold Qfb Qfa Je
  rw [XK (by omega)]
  simp only [ZU, Qac, Qw, Qgw]
  rw [JZ _ (by simp), Qw]
  congr 1
  generalize decide (s.Left = -1) = l
  generalize decide (s.Right = -1) = r
  generalize (decide (0 ≤ s.Left) && decide (s.Left ≤ (n : Int) - 1)) = il
  generalize (decide (0 ≤ s.Right) && decide (s.Right ≤ (n : Int) - 1)) = ir
  generalize decide (s.Left = s.Right) = eq
  generalize (decide (0 ≤ s.Share) && decide (s.Share ≤ 1000)) = sh
  generalize (decide (0 ≤ s.Loss) && decide (s.Loss ≤ 500)) = lo
  generalize decide (s.Share = 0) = s0
  generalize decide (s.Share = 1000) = s1
  revert l r il ir eq sh lo s0 s1
  decide +kernel
theorem QNg (m : FeedNet) (s : FeedSection) (hn : m.Stations.length < 1000) : Qjf m s = some (Je s m.Stations.length) := by
  unfold Qjf Qje Je
  rw [XK (by omega)]
  simp only [Qbp, Qw, Qgw]
  congr 1
  generalize decide (s.Left = -1) = l
  generalize decide (s.Right = -1) = r
  generalize (decide (0 ≤ s.Left) && decide (s.Left ≤ (m.Stations.length : Int) - 1)) = il
  generalize (decide (0 ≤ s.Right) && decide (s.Right ≤ (m.Stations.length : Int) - 1)) = ir
  generalize decide (s.Left = s.Right) = eq
  generalize (decide (0 ≤ s.Share) && decide (s.Share ≤ 1000)) = sh
  generalize (decide (0 ≤ s.Loss) && decide (s.Loss ≤ 500)) = lo
  generalize decide (s.Share = 0) = s0
  generalize decide (s.Share = 1000) = s1
  revert l r il ir eq sh lo s0 s1
  decide +kernel
def Jf (s : FeedStep) (n : Nat) : Int := bif !(decide (0 ≤ s.Section) && decide (s.Section ≤ (n : Int) - 1)) then 6 else bif !(decide (-20000 ≤ s.Power) && decide (s.Power ≤ 20000)) then 2 else 0
def Qjx (l : List FeedStep) (n : Nat) : Int := match X4 (fun i => (l[i]?.map (Jf · n)).getD 0) l.length with | some i => (l[i]?.map (Jf · n)).getD 0 | none => 0
def QAs (e1 e2 : Bool) (o : Bool) (z : Bool) (m : Bool) (st : Int) : Int := bif !(e1 && e2) then 2 else bif !o then 9 else bif !z then 10 else bif !m then 8 else st
def Zp (t : FeedTrain) (n : Nat) : Int := QAs (decide (0 ≤ t.Earliest) && decide (t.Earliest ≤ 1000)) (decide (0 ≤ t.Latest) && decide (t.Latest ≤ 1000)) (decide (t.Earliest ≤ t.Latest)) (decide (0 < (t.Steps.length : Int))) (decide ((t.Steps.length : Int) ≤ 12)) (Qjx t.Steps n)
theorem Qnp (l : List FeedStep) (n k : Nat) (hk : k < l.length) : (l[k]?.map (Jf · n)).getD 0 = Jf l[k] n := by rw [List.getElem?_eq_getElem hk]; rfl
theorem QEl (t : FeedTrain) (n : Nat) (hn : n < 1000) (ht : t.Steps.length < 1000) : Qfd t (n : Int) = some (Zp t n) := by
  have key : loop (Qfc (n : Int) t) 0 = some (match X4 (fun i => (t.Steps[i]?.map (Jf · n)).getD 0) t.Steps.length with | some i => .inl ((t.Steps[i]?.map (Jf · n)).getD 0) | none => .inr ()) :=
    J1 (fun k => (k : Int)) t.Steps.length _ (fun _ e => e) () (fun k hk _ => by
      rw [Qnp _ _ _ hk]
      unfold Qfc Jf
      rw [XN hk, cond_true, Xs hk, Qw, XP k (by omega), XK (by omega)]
      simp only [ZU, Qac, Qw]
      rw [QPx _ _ (by omega) (by omega)]
      simp only [ZU, Qw]
      rw [JZ _ (by simp), Qw]
      generalize (decide (0 ≤ t.Steps[k].Section) && decide (t.Steps[k].Section ≤ (n : Int) - 1)) = a
      generalize (decide (-20000 ≤ t.Steps[k].Power) && decide (t.Steps[k].Power ≤ 20000)) = b
      cases a <;> cases b <;> rfl) (fun _ => by
      unfold Qfc
      rw [XO]; rfl)
  unfold Qfd Qbt
  rw [key]
  unfold Zp Qjx
  simp only [ZU, Qac, Qw, Qgw]
  rw [JZ _ (by simp), Qw]
  generalize (decide (0 ≤ t.Earliest) && decide (t.Earliest ≤ 1000)) = e1
  generalize (decide (0 ≤ t.Latest) && decide (t.Latest ≤ 1000)) = e2
  generalize decide (t.Earliest ≤ t.Latest) = o
  generalize decide (0 < (t.Steps.length : Int)) = z
  generalize decide ((t.Steps.length : Int) ≤ 12) = m
  cases X4 (fun i => (t.Steps[i]?.map (Jf · n)).getD 0) t.Steps.length with
  | none => cases e1 <;> cases e2 <;> cases o <;> cases z <;> cases m <;> rfl
  | some i => cases e1 <;> cases e2 <;> cases o <;> cases z <;> cases m <;> rfl
theorem QNk (m : FeedNet) (t : FeedTrain) (hn : m.Sections.length < 1000) (ht : t.Steps.length < 1000) : Qjh m t = some (Zp t m.Sections.length) := by
  have key : loop (Qjg m t) 0 = some (match X4 (fun i => (t.Steps[i]?.map (Jf · m.Sections.length)).getD 0) t.Steps.length with | some i => .inl ((t.Steps[i]?.map (Jf · m.Sections.length)).getD 0) | none => .inr ()) :=
    J1 (fun k => (k : Int)) t.Steps.length _ (fun _ e => e) () (fun k hk _ => by
      rw [Qnp _ _ _ hk]
      unfold Qjg Qox Jf
      rw [XN hk, cond_true, Xs hk, Qw, XP k (by omega), XK (by omega)]
      simp only [Qbp, Qw]
      generalize (decide (0 ≤ t.Steps[k].Section) && decide (t.Steps[k].Section ≤ (m.Sections.length : Int) - 1)) = a
      generalize (decide (-20000 ≤ t.Steps[k].Power) && decide (t.Steps[k].Power ≤ 20000)) = b
      cases a <;> cases b <;> rfl) (fun _ => by
      unfold Qjg
      rw [XO]; rfl)
  unfold Qjh
  rw [key]
  unfold Zp Qjx
  simp only [Qbp, Qw, Qgw]
  rw [show decide (t.Latest < t.Earliest) = !decide (t.Earliest ≤ t.Latest) by rw [← decide_not]; congr 1; exact propext (by omega),
    show decide ((t.Steps.length : Int) = 0) = !decide (0 < (t.Steps.length : Int)) by rw [← decide_not]; congr 1; exact propext (by omega),
    show decide (12 < (t.Steps.length : Int)) = !decide ((t.Steps.length : Int) ≤ 12) by rw [← decide_not]; congr 1; exact propext (by omega)]
  generalize (decide (0 ≤ t.Earliest) && decide (t.Earliest ≤ 1000)) = e1
  generalize (decide (0 ≤ t.Latest) && decide (t.Latest ≤ 1000)) = e2
  generalize decide (t.Earliest ≤ t.Latest) = o
  generalize decide (0 < (t.Steps.length : Int)) = z
  generalize decide ((t.Steps.length : Int) ≤ 12) = q
  cases X4 (fun i => (t.Steps[i]?.map (Jf · m.Sections.length)).getD 0) t.Steps.length with
  | none => cases e1 <;> cases e2 <;> cases o <;> cases z <;> cases q <;> rfl
  | some i => cases e1 <;> cases e2 <;> cases o <;> cases z <;> cases q <;> rfl
end Go.Gw

end
section
set_option maxRecDepth 4096
namespace Go.Gw
open Go
def stE (s : FeedStation) (others : List ByteArray) : Int := if Z8 s.Name others ≠ 0 then Z8 s.Name others else bif !(decide (0 ≤ s.Limit) && decide (s.Limit ≤ 100000)) then 2 else 0
def ZC (n : FeedNet) (i : Nat) : Int := (n.Stations[i]?.map fun s => stE s ((n.Stations.take i).map (·.Name))).getD 0
def ZB (n : FeedNet) (i : Nat) : Int := (n.Sections[i]?.map fun s => Je s n.Stations.length).getD 0
def trE (t : FeedTrain) (others : List ByteArray) (n : Nat) : Int := if Z8 t.Name others ≠ 0 then Z8 t.Name others else Zp t n
def Ze (n : FeedNet) (i : Nat) : Int := (n.Trains[i]?.map fun t => trE t ((n.Trains.take i).map (·.Name)) n.Sections.length).getD 0
def X6 (n : FeedNet) : FeedMark × Int :=
  if n.Stations.length = 0 ∨ n.Sections.length = 0 then (FeedMark.mk 0 0, 10) else if 6 < n.Stations.length ∨ 10 < n.Sections.length ∨ 6 < n.Trains.length then (FeedMark.mk 0 0, 8) else
  match X4 (ZC n) n.Stations.length with
  | some i => (FeedMark.mk 1 i, ZC n i)
  | none => match X4 (ZB n) n.Sections.length with
    | some i => (FeedMark.mk 2 i, ZB n i)
    | none => match X4 (Ze n) n.Trains.length with
      | some i => (FeedMark.mk 3 i, Ze n i)
      | none => (FeedMark.mk 0 0, 0)
structure NetS (n : FeedNet) : Prop where
  st : n.Stations.length < 1000
  se : n.Sections.length < 1000
  tr : n.Trains.length < 1000
  sn : ∀ s ∈ n.Stations, s.Name.size ≤ 1000
  tn : ∀ t ∈ n.Trains, t.Name.size ≤ 1000 ∧ t.Steps.length < 1000
theorem ZN {α : Type} (l : List α) (f : α → Int) (k : Nat) (hk : k < l.length) : (l[k]?.map f).getD 0 = f l[k] := by rw [List.getElem?_eq_getElem hk]; rfl
theorem Qjy {α β : Type} (l : List α) (f : α → β) (k : Nat) (hk : k < l.length) : (l.take k).map f ++ [f l[k]] = (l.take (k + 1)).map f := by
  rw [List.take_add_one, List.getElem?_eq_getElem hk, List.map_append]; rfl
theorem Qnn (a b : Int) : Zk [a, b] = if a ≠ 0 then a else b := by
  by_cases h : a = 0
  · by_cases h2 : b = 0 <;> simp [Zk, h, h2]
  · simp [Zk, h]
section
variable {n : FeedNet} (h : NetS n)
include h
theorem QEi : loop (Qej n) (([] : List ByteArray), 0) = some (match X4 (ZC n) n.Stations.length with | some i => .inl (FeedMark.mk 1 i, ZC n i) | none => .inr ()) :=
  J1 (fun k => ((n.Stations.take k).map (·.Name), (k : Int))) n.Stations.length (ZC n) (fun i e => (FeedMark.mk 1 i, e)) () (fun k hk _ => by
    have hst := h.st
    have hs : ZC n k = stE n.Stations[k] ((n.Stations.take k).map (·.Name)) := ZN _ _ _ hk
    rw [hs]
    unfold Qej stE
    simp only [XN hk, cond_true, Xs hk, Qw]
    rw [Qvz _ _ (h.sn _ (List.getElem_mem hk)) (by simp; omega), Qw]
    simp only [Qac, ZU, Qw]
    rw [JZ _ (by simp), Qw, Qnn]
    generalize (decide (0 ≤ n.Stations[k].Limit) && decide (n.Stations[k].Limit ≤ 100000)) = b
    by_cases h1 : Z8 n.Stations[k].Name ((n.Stations.take k).map (·.Name)) = 0
    · simp only [h1, ne_eq, not_true_eq_false, if_false]
      cases b
      · rfl
      · simp only [cond_true, decide_true, Bool.not_true, cond_false, if_true]
        rw [Jl (by simp; omega), Qw, Qjy n.Stations (·.Name) k hk, XP k (by omega)]
    · simp only [ne_eq, h1, not_false_eq_true, if_true, decide_false, Bool.not_false, cond_true, if_false]) (fun _ => by
    unfold Qej
    simp only [XO]; rfl)
theorem QEh : loop (Qek n) 0 = some (match X4 (ZB n) n.Sections.length with | some i => .inl (FeedMark.mk 2 i, ZB n i) | none => .inr ()) :=
  J1 (fun k => (k : Int)) n.Sections.length (ZB n) (fun i e => (FeedMark.mk 2 i, e)) () (fun k hk _ => by
    have hse := h.se
    have hs : ZB n k = Je n.Sections[k] n.Stations.length := ZN _ _ _ hk
    rw [hs]
    unfold Qek
    rw [XN hk, cond_true, Xs hk, Qw, QEg _ _ h.st, Qw, XP k (by omega)]
    by_cases h1 : Je n.Sections[k] n.Stations.length = 0
    · simp [h1]
    · simp [h1]) (fun _ => by
    unfold Qek
    rw [XO]; rfl)
theorem QEn : loop (Qel n) (([] : List ByteArray), 0) = some (match X4 (Ze n) n.Trains.length with | some i => .inl (FeedMark.mk 3 i, Ze n i) | none => .inr ()) :=
  J1 (fun k => ((n.Trains.take k).map (·.Name), (k : Int))) n.Trains.length (Ze n) (fun i e => (FeedMark.mk 3 i, e)) () (fun k hk _ => by
    have hst := h.tr
    have hs : Ze n k = trE n.Trains[k] ((n.Trains.take k).map (·.Name)) n.Sections.length := ZN _ _ _ hk
    rw [hs]
    unfold Qel trE
    simp only [XN hk, cond_true, Xs hk, Qw]
    rw [Qvz _ _ (h.tn _ (List.getElem_mem hk)).1 (by simp; omega), Qw, QEl _ _ h.se (h.tn _ (List.getElem_mem hk)).2, Qw]
    rw [JZ _ (by simp), Qw, Qnn]
    by_cases h1 : Z8 n.Trains[k].Name ((n.Trains.take k).map (·.Name)) = 0
    · simp only [h1, ne_eq, not_true_eq_false, if_false]
      by_cases h2 : Zp n.Trains[k] n.Sections.length = 0
      · simp only [h2, decide_true, Bool.not_true, cond_false, if_true]
        rw [Jl (by simp; omega), Qw, Qjy n.Trains (·.Name) k hk, XP k (by omega)]
      · simp [h2]
    · simp only [ne_eq, h1, not_false_eq_true, if_true, decide_false, Bool.not_false, cond_true, if_false]) (fun _ => by
    unfold Qel
    simp only [XO]; rfl)
theorem Qmc : Qem n = some (X6 n) := by
  unfold Qem X6
  rw [QEi h, QEh h, QEn h]
  simp only [ZU, Qw]
  rw [JZ _ (by simp), Qw, Qnn]
  by_cases h1 : n.Stations.length = 0 ∨ n.Sections.length = 0
  · rw [if_pos h1]
    have : (decide (0 < (n.Stations.length : Int)) && decide (0 < (n.Sections.length : Int))) = false := by
      rw [Bool.eq_false_iff]; intro e; simp at e; omega
    rw [this]; rfl
  · rw [if_neg h1]
    have : (decide (0 < (n.Stations.length : Int)) && decide (0 < (n.Sections.length : Int))) = true := by
      simp; omega
    rw [this]
    by_cases h2 : 6 < n.Stations.length ∨ 10 < n.Sections.length ∨ 6 < n.Trains.length
    · rw [if_pos h2]
      have : ((decide ((n.Stations.length : Int) ≤ 6) && decide ((n.Sections.length : Int) ≤ 10)) && decide ((n.Trains.length : Int) ≤ 6)) = false := by
        rw [Bool.eq_false_iff]; intro e; simp at e; omega
      rw [this]; rfl
    · rw [if_neg h2]
      have : ((decide ((n.Stations.length : Int) ≤ 6) && decide ((n.Sections.length : Int) ≤ 10)) && decide ((n.Trains.length : Int) ≤ 6)) = true := by
        simp; omega
      rw [this]
      cases X4 (ZC n) n.Stations.length with
      | some i => rfl
      | none =>
        cases X4 (ZB n) n.Sections.length with
        | some i => rfl
        | none =>
          cases X4 (Ze n) n.Trains.length with
          | some i => rfl
          | none => rfl
end
end Go.Gw

end
section
set_option maxRecDepth 4096
namespace Go.Gw
open Go
theorem Qzs {α : Type} {p : α → Bool} : ∀ (l : List α) (k m : Nat) (hk : k < l.length), p l[k] = true → ∃ j : Nat, XR p (fun k _ => (k : Int)) m l = .inl ((m + j : Nat) : Int) ∧ (j < k ↔ (l.take k).any p = true)
  | x :: xs, 0, m, _, hp => ⟨0, by simp at hp; simp [XR, hp], by simp⟩
  | x :: xs, k + 1, m, hk, hp => by
    by_cases hx : p x = true
    · exact ⟨0, by simp [XR, hx], by simp [hx]⟩
    · obtain ⟨j, h1, h2⟩ := Qzs xs k (m + 1) (by simpa using hk) (by simpa using hp)
      refine ⟨j + 1, by simp only [XR, hx]; rw [← show m + 1 + j = m + (j + 1) by omega]; simpa using h1, ?_⟩
      simp only [List.take_succ_cons, List.any_cons, hx]
      rw [← (show ((l : Bool) → (false || l) = l) from fun l => by cases l <;> rfl) ((xs.take k).any p)] at h2
      constructor
      · intro h; simpa using h2.1 (by omega)
      · intro h; have := h2.2 (by simpa using h); omega
theorem Qlc {α : Type} (f : α → ByteArray) (l : List α) (s : ByteArray) : ((l.map f).any fun x => decide (s = x)) = l.any fun y => decide (f y = s) := by
  rw [List.any_map]
  congr 1
  funext y
  exact decide_eq_decide.2 eq_comm
def Yd (n : FeedNet) (s : ByteArray) : Int := match XR (fun t : FeedTrain => decide (t.Name = s)) (fun k _ => (k : Int)) 0 n.Trains with | .inl i => i | .inr _ => -1
theorem Qot (n : FeedNet) (s : ByteArray) (h : n.Trains.length < 1000000) : Qdl n s = some (Yd n s) := by
  unfold Qdl Yd
  rw [Zv n.Trains (fun t => decide (t.Name = s)) (fun k _ => (k : Int)), Qw, Qga]
  all_goals first
    | (intro k hk; unfold Qow; rw [XN hk, cond_true, Xs hk, Qw, XP k (by omega)])
    | (unfold Qow; rw [XO]; rfl)
    | rfl
section
variable {n : FeedNet} (h : NetS n)
include h
theorem QNj : loop (Qiw n) 0 = some (match X4 (ZC n) n.Stations.length with | some i => .inl (FeedMark.mk 1 i, ZC n i) | none => .inr ()) :=
  J1 (fun k => (k : Int)) n.Stations.length (ZC n) (fun i e => (FeedMark.mk 1 i, e)) () (fun k hk _ => by
    have hst := h.st
    have hs : ZC n k = stE n.Stations[k] ((n.Stations.take k).map (·.Name)) := ZN _ _ _ hk
    have hlen : (n.Stations.take k).length = k := by simp; omega
    have inner : loop (Qiv n (k : Int)) 0 = some (XR (fun y : FeedStation => decide (y.Name = n.Stations[k].Name)) (fun _ _ => Sum.inr (α := Int) (Sum.inl (β := Unit) (FeedMark.mk 1 (k : Int), (5 : Int)))) 0 (n.Stations.take k)) :=
      Zv (n.Stations.take k) _ _ (fun j hj => by
        rw [hlen] at hj
        unfold Qiv
        rw [XN hj, cond_true, Xs (show j < n.Stations.length by omega), Qw, Xs hk, Qw, XP j (by omega)]
        simp only [List.getElem_take]) (by
        rw [hlen]
        unfold Qiv
        rw [XO]; rfl)
    rw [hs]
    unfold Qiw stE Z8
    rw [XN hk, cond_true, Xs hk, Qw, Qqf, Qw, inner, Qlc]
    cases hn : Qbe n.Stations[k].Name
    · rfl
    · simp only [Bool.not_true, cond_false, Qw]
      rcases Qaq (p := fun y : FeedStation => decide (y.Name = n.Stations[k].Name)) (res := fun _ _ => Sum.inr (α := Int) (Sum.inl (β := Unit) (FeedMark.mk 1 (k : Int), (5 : Int)))) (n.Stations.take k) 0 with ⟨k1, k2⟩ | ⟨j, x, k1, k2, k3⟩
      · rw [k1, k2]
        simp only [jn0, Qw, Qbp, XP k (show k < 4611686018427387904 by omega)]
        generalize (decide (0 ≤ n.Stations[k].Limit) && decide (n.Stations[k].Limit ≤ 100000)) = b
        cases b <;> rfl
      · rw [k1, k3]; rfl) (fun _ => by
    unfold Qiw
    rw [XO]; rfl)
theorem QNh : loop (Qix n) 0 = some (match X4 (ZB n) n.Sections.length with | some i => .inl (FeedMark.mk 2 i, ZB n i) | none => .inr ()) :=
  J1 (fun k => (k : Int)) n.Sections.length (ZB n) (fun i e => (FeedMark.mk 2 i, e)) () (fun k hk _ => by
    have hse := h.se
    have hs : ZB n k = Je n.Sections[k] n.Stations.length := ZN _ _ _ hk
    rw [hs]
    unfold Qix
    rw [XN hk, cond_true, Xs hk, Qw, QNg _ _ h.st, Qw, XP k (by omega)]
    by_cases h1 : Je n.Sections[k] n.Stations.length = 0
    · simp [h1]
    · simp [h1]) (fun _ => by
    unfold Qix
    rw [XO]; rfl)
theorem QNl : loop (Qiy n) 0 = some (match X4 (Ze n) n.Trains.length with | some i => .inl (FeedMark.mk 3 i, Ze n i) | none => .inr ()) :=
  J1 (fun k => (k : Int)) n.Trains.length (Ze n) (fun i e => (FeedMark.mk 3 i, e)) () (fun k hk _ => by
    have hst := h.tr
    have hs : Ze n k = trE n.Trains[k] ((n.Trains.take k).map (·.Name)) n.Sections.length := ZN _ _ _ hk
    obtain ⟨j, hj1, hj2⟩ := Qzs (p := fun t : FeedTrain => decide (t.Name = n.Trains[k].Name)) n.Trains k 0 hk (by simp)
    have ht : Yd n n.Trains[k].Name = (j : Int) := by unfold Yd; rw [hj1]; simp
    rw [hs]
    unfold Qiy trE Z8
    rw [XN hk, cond_true, Xs hk, Qw, Qqf, Qw, Qlc]
    cases hn : Qbe n.Trains[k].Name
    · rfl
    · simp only [Bool.not_true, cond_false, Qw]
      rw [Qot _ _ (by omega), ht, Qw, QNk _ _ h.se (h.tn _ (List.getElem_mem hk)).2, Qw, XP k (by omega)]
      cases ha : (n.Trains.take k).any (fun t => decide (t.Name = n.Trains[k].Name)) with
      | true =>
        rw [decide_eq_true (show (j : Int) < k by have := hj2.2 ha; omega)]; rfl
      | false =>
        rw [decide_eq_false (show ¬ (j : Int) < k by intro e; have := hj2.1 (by omega); rw [ha] at this; cases this)]
        by_cases h2 : Zp n.Trains[k] n.Sections.length = 0
        · simp [h2]
        · simp [h2]) (fun _ => by
    unfold Qiy
    rw [XO]; rfl)
theorem QNf : Qiz n = some (X6 n) := by
  unfold Qiz X6
  rw [QNj h, QNh h, QNl h]
  by_cases h1 : n.Stations.length = 0 ∨ n.Sections.length = 0
  · rw [if_pos h1]
    have : (decide ((n.Stations.length : Int) = 0) || decide ((n.Sections.length : Int) = 0)) = true := by
      simp only [Bool.or_eq_true, decide_eq_true_eq]; omega
    rw [this]; rfl
  · rw [if_neg h1]
    have : (decide ((n.Stations.length : Int) = 0) || decide ((n.Sections.length : Int) = 0)) = false := by
      rw [decide_eq_false (by omega), decide_eq_false (by omega)]; rfl
    rw [this, cond_false]
    by_cases h2 : 6 < n.Stations.length ∨ 10 < n.Sections.length ∨ 6 < n.Trains.length
    · rw [if_pos h2]
      have : ((decide (6 < (n.Stations.length : Int)) || decide (10 < (n.Sections.length : Int))) || decide (6 < (n.Trains.length : Int))) = true := by
        simp only [Bool.or_eq_true, decide_eq_true_eq]; omega
      rw [this]; rfl
    · rw [if_neg h2]
      have : ((decide (6 < (n.Stations.length : Int)) || decide (10 < (n.Sections.length : Int))) || decide (6 < (n.Trains.length : Int))) = false := by
        rw [decide_eq_false (by omega), decide_eq_false (by omega), decide_eq_false (by omega)]; rfl
      rw [this, cond_false]
      cases X4 (ZC n) n.Stations.length with
      | some i => rfl
      | none =>
        cases X4 (ZB n) n.Sections.length with
        | some i => rfl
        | none =>
          cases X4 (Ze n) n.Trains.length with
          | some i => rfl
          | none => rfl
end
end Go.Gw

end
section
set_option maxRecDepth 4096
namespace Go.Gw
open Go
theorem Qlr (l : List FeedDeparture) (h : l.length < 1000000) : Qfp l = some l := by
  unfold Qfp; rw [Jl (by simp; omega)]; rfl
theorem QCz {n : FeedNet} (h : NetS n) : Qcb n = some n := by
  have key : loop (Qjb n) (0, ([] : List FeedTrain)) = some n.Trains :=
    Zm (fun k => ((k : Int), n.Trains.take k)) n.Trains.length (fun k hk => by
      have hst := h.tr
      have hsteps := (h.tn _ (List.getElem_mem hk)).2
      unfold Qjb
      simp only [XN hk, cond_true, Xs hk, Qw]
      rw [Jl (by simp; omega), Qw, Jl (by simp; omega), Qw, XP k (by omega), List.nil_append]
      congr 3
      rw [List.take_add_one, List.getElem?_eq_getElem hk]; rfl) (by
      unfold Qjb
      simp only [XO, cond_false, List.take_length])
  unfold Qcb
  have h1 := h.st
  have h2 := h.se
  rw [Jl (by simp; omega), Jl (by simp; omega), key]
  rfl
def Qfe (n : FeedNet) : Bool := !(decide (8 < n.Stations.length) || decide (12 < n.Sections.length) || decide (8 < n.Trains.length)) && !(n.Stations.any fun s => decide (20 < (s.Name.size : Int))) && !(n.Trains.any fun t => decide (20 < (t.Name.size : Int)) || decide (14 < (t.Steps.length : Int)))
theorem QIs (n : FeedNet) : Qid n = some (Qfe n) := by
  unfold Qid Qfe
  by_cases h : 8 < n.Stations.length ∨ 12 < n.Sections.length ∨ 8 < n.Trains.length
  · have e1 : ((decide (8 < (n.Stations.length : Int)) || decide (12 < (n.Sections.length : Int))) || decide (8 < (n.Trains.length : Int))) = true := by
      simp only [Bool.or_eq_true, decide_eq_true_eq]; omega
    have e2 : (decide (8 < n.Stations.length) || decide (12 < n.Sections.length) || decide (8 < n.Trains.length)) = true := by
      simp only [Bool.or_eq_true, decide_eq_true_eq]; omega
    rw [e1, e2]; rfl
  · have e1 : ((decide (8 < (n.Stations.length : Int)) || decide (12 < (n.Sections.length : Int))) || decide (8 < (n.Trains.length : Int))) = false := by
      rw [decide_eq_false (by omega), decide_eq_false (by omega), decide_eq_false (by omega)]; rfl
    have e2 : (decide (8 < n.Stations.length) || decide (12 < n.Sections.length) || decide (8 < n.Trains.length)) = false := by
      rw [decide_eq_false (by omega), decide_eq_false (by omega), decide_eq_false (by omega)]; rfl
    rw [e1, e2, cond_false, Zv n.Stations (fun s => decide (20 < (s.Name.size : Int))) (fun _ _ => false), Qw, Zv n.Trains (fun t => decide (20 < (t.Name.size : Int)) || decide (14 < (t.Steps.length : Int))) (fun _ _ => false)]
    · rcases Qaq (p := fun s : FeedStation => decide (20 < (s.Name.size : Int))) (res := fun _ _ => false) n.Stations 0 with ⟨k1, k2⟩ | ⟨j, x, k1, k2, k3⟩
      · rw [k1, k2]
        rcases Qaq (p := fun t : FeedTrain => decide (20 < (t.Name.size : Int)) || decide (14 < (t.Steps.length : Int))) (res := fun _ _ => false) n.Trains 0 with ⟨k3, k4⟩ | ⟨j, x, k3, k4, k5⟩
        · rw [k3, k4]; rfl
        · rw [k3, k5]; rfl
      · rw [k1, k3]; rfl
    · intro k hk
      unfold Qnu
      rw [XN hk, cond_true, Xs hk, Qw, XP k (by omega)]
      cases h1 : decide (20 < (n.Trains[k].Name.size : Int)) <;> simp
    · unfold Qnu
      rw [XO]; rfl
    · intro k hk
      unfold Qnt
      rw [XN hk, cond_true, Xs hk, Qw, XP k (by omega)]
    · unfold Qnt
      rw [XO]; rfl
theorem QIr {n : FeedNet} (h : Qfe n = true) : NetS n := by
  unfold Qfe at h
  simp only [Bool.and_eq_true, Bool.not_eq_true', Bool.or_eq_false_iff, decide_eq_false_iff_not, List.any_eq_false] at h
  obtain ⟨⟨⟨⟨h1, h2⟩, h3⟩, h4⟩, h5⟩ := h
  refine ⟨by omega, by omega, by omega, fun s hs => ?_, fun t ht => ?_⟩
  · have := h4 s hs; simp at this; omega
  · have := h5 t ht; simp at this; omega
def QSu (l : List FeedDeparture) : Bool := !(decide (8 < l.length)) && !(l.any fun d => decide (20 < (d.Train.size : Int)))
end Go.Gw

end
section
set_option maxRecDepth 4096
namespace Go.Gw
open Go
def Jq (n : FeedNet) (d : FeedDeparture) (others : List FeedDeparture) : Int := if Yd n d.Train < 0 then 6 else if (others.any fun o => decide (o.Train = d.Train)) = true then 26 else bif !(decide (0 ≤ d.At) && decide (d.At ≤ 1000)) then 2 else 0
def YB (n : FeedNet) (l : List FeedDeparture) (i : Nat) : Int := (l[i]?.map fun d => Jq n d (l.take i)).getD 0
def Xc (n : FeedNet) (d : FeedDeparture) : feed_run := feed_run.mk (n.Trains[(Yd n d.Train).toNat]?.getD default) d.At
theorem Qki {n : FeedNet} {s : ByteArray} (h : 0 ≤ Yd n s) : ∃ t, n.Trains[(Yd n s).toNat]? = some t ∧ t.Name = s ∧ (Yd n s).toNat < n.Trains.length := by
  have key : ∀ (l : List FeedTrain) (m : Nat), (XR (fun t : FeedTrain => decide (t.Name = s)) (fun k _ => (k : Int)) m l = .inr ()) ∨ ∃ (j : Nat) (t : FeedTrain), XR (fun t : FeedTrain => decide (t.Name = s)) (fun k _ => (k : Int)) m l = .inl ((m + j : Nat) : Int) ∧ l[j]? = some t ∧ t.Name = s := by
    intro l
    induction l with
    | nil => intro m; exact .inl rfl
    | cons x xs ih =>
      intro m
      by_cases hx : x.Name = s
      · exact .inr ⟨0, x, by simp [XR, hx], rfl, hx⟩
      · rcases ih (m + 1) with h1 | ⟨j, t, h1, h2, h3⟩
        · exact .inl (by simp [XR, hx, h1])
        · exact .inr ⟨j + 1, t, by simp only [XR, hx, decide_false]; rw [← show m + 1 + j = m + (j + 1) by omega]; simpa using h1, h2, h3⟩
  rcases key n.Trains 0 with h1 | ⟨j, t, h1, h2, h3⟩
  · unfold Yd at h; rw [h1] at h; simp at h
  · have e : Yd n s = (j : Int) := by unfold Yd; rw [h1]; simp
    rw [e]
    exact ⟨t, by simpa using h2, h3, by simpa using (List.getElem?_eq_some_iff.1 h2).1⟩
theorem QEm (n : FeedNet) (s : ByteArray) (h : n.Trains.length < 1000000) : Qey ⟨n⟩ s = some (Yd n s) := by
  unfold Qey Qjr Yd
  rw [Zv n.Trains (fun t => decide (t.Name = s)) (fun k _ => (k : Int)), Qw, Qga]
  · rfl
  · intro k hk
    unfold Qjq
    rw [XN hk, cond_true, Xs hk, Qw, XP k (by omega)]; rfl
  · unfold Qjq
    rw [XO]; rfl
theorem QCm (l : List feed_run) (d : FeedDeparture) (hl : l.length < 1000000) : Qfu l d = some (l.any fun r => decide (r.FeedTrain.Name = d.Train)) := by
  unfold Qfu Qjt
  rw [Zv l (fun r => decide (r.FeedTrain.Name = d.Train)) (fun k _ => (k : Int)), Qw, Qga, Qw, Qjw]
  · intro k hk
    unfold Qjs
    rw [XN hk, cond_true, Xs hk, Qw, XP k (by omega)]; rfl
  · unfold Qjs
    rw [XO]; rfl
theorem Qls {n : FeedNet} {d : FeedDeparture} {o : List FeedDeparture} (h : Jq n d o = 0) : 0 ≤ Yd n d.Train := by
  unfold Jq at h
  split at h
  · cases h
  · omega
theorem QOe {n : FeedNet} (s : ByteArray) (l : List FeedDeparture) (h : ∀ d ∈ l, 0 ≤ Yd n d.Train) : ((l.map (Xc n)).any fun r => decide (r.FeedTrain.Name = s)) = l.any fun d => decide (d.Train = s) := by
  rw [List.any_map]
  induction l with
  | nil => rfl
  | cons d l ih =>
    simp only [List.any_cons]
    rw [ih fun x hx => h x (List.mem_cons_of_mem _ hx)]
    congr 1
    obtain ⟨t, h1, h2, _⟩ := Qki (h d (List.mem_cons_self ..))
    simp [Xc, h1, h2]
theorem QIw (a b c : Int) : Zk [a, b, c] = if a ≠ 0 then a else if b ≠ 0 then b else c := by
  by_cases h : a = 0 <;> by_cases h2 : b = 0 <;> by_cases h3 : c = 0 <;> simp [Zk, h, h2, h3]
theorem QEf (n : FeedNet) (l : List FeedDeparture) (hn : n.Trains.length < 1000) : Qeu ⟨n⟩ l = some (if 6 < l.length then ([], 0, 8) else match X4 (YB n l) l.length with | some i => ([], (i : Int), YB n l i) | none => (l.map (Xc n), 0, 0)) := by
  unfold Qeu
  by_cases h6 : 6 < l.length
  · rw [decide_eq_true (show 6 < (l.length : Int) by omega), if_pos h6]; rfl
  · rw [decide_eq_false (show ¬ 6 < (l.length : Int) by omega), if_neg h6, cond_false]
    have key : loop (Qet l ⟨n⟩) (([] : List feed_run), 0) = some (match X4 (YB n l) l.length with | some i => .inl ([], (i : Int), YB n l i) | none => .inr (l.map (Xc n))) :=
      J1 (fun k => ((l.take k).map (Xc n), (k : Int))) l.length (YB n l) (fun i e => (([] : List feed_run), (i : Int), e)) (l.map (Xc n)) (fun k hk hpre => by
        have hs : YB n l k = Jq n l[k] (l.take k) := ZN _ _ _ hk
        have hall : ∀ d ∈ l.take k, 0 ≤ Yd n d.Train := fun d hd => by
          obtain ⟨j, hj, rfl⟩ := List.mem_iff_getElem.1 hd
          have hjk : j < k := by rw [List.length_take] at hj; omega
          have := hpre j hjk
          rw [show YB n l j = Jq n l[j] (l.take j) from ZN _ _ _ (by omega)] at this
          rw [List.getElem_take]
          exact Qls this
        rw [hs]
        unfold Qet
        simp only [XN hk, cond_true, Xs hk, Qw]
        rw [QEm n _ (by omega), Qw, QCm _ _ (by simp; omega), Qw, QOe _ _ hall]
        unfold Qbt
        simp only [ZU, Qac, Qw]
        rw [JZ _ (by simp), Qw, QIw]
        unfold Jq
        generalize (decide (0 ≤ l[k].At) && decide (l[k].At ≤ 1000)) = b
        generalize ((l.take k).any fun d => decide (d.Train = l[k].Train)) = tw
        by_cases ht : Yd n l[k].Train < 0
        · rw [decide_eq_false (show ¬ 0 ≤ Yd n l[k].Train by omega)]
          simp [ht]
        · rw [decide_eq_true (show 0 ≤ Yd n l[k].Train by omega), if_neg ht]
          cases tw
          · cases b
            · rfl
            · simp only [cond_true, Bool.not_false, Bool.not_true, cond_false, ne_eq, not_true_eq_false, if_false, decide_true]
              obtain ⟨t, h1, h2, h3⟩ := Qki (show 0 ≤ Yd n l[k].Train by omega)
              have hidx : idx n.Trains (Yd n l[k].Train) = some t := by unfold idx; rw [if_pos (by omega)]; exact h1
              rw [hidx, Qw, Jl (by simp; omega), Qw, XP k (by omega)]
              have : feed_run.mk t l[k].At = Xc n l[k] := by unfold Xc; rw [h1]; rfl
              rw [this, Qjy l (Xc n) k hk]
              rfl
          · rfl) (fun _ => by
        unfold Qet
        simp only [XO, cond_false, List.take_length])
    rw [key, Qw]
    cases X4 (YB n l) l.length <;> rfl
theorem QNe (n : FeedNet) (l : List FeedDeparture) (hn : n.Trains.length < 1000) : Qiu n l = some (if 6 < l.length then (0, 8) else match X4 (YB n l) l.length with | some i => ((i : Int), YB n l i) | none => (0, 0)) := by
  unfold Qiu
  by_cases h6 : 6 < l.length
  · rw [decide_eq_true (show 6 < (l.length : Int) by omega), if_pos h6]; rfl
  · rw [decide_eq_false (show ¬ 6 < (l.length : Int) by omega), if_neg h6, cond_false]
    have key : loop (Qit l n) 0 = some (match X4 (YB n l) l.length with | some i => .inl ((i : Int), YB n l i) | none => .inr ()) :=
      J1 (fun k => (k : Int)) l.length (YB n l) (fun i e => ((i : Int), e)) () (fun k hk _ => by
        have hs : YB n l k = Jq n l[k] (l.take k) := ZN _ _ _ hk
        have hlen : (l.take k).length = k := by simp; omega
        have inner : loop (Qis l (k : Int)) 0 = some (XR (fun y : FeedDeparture => decide (y.Train = l[k].Train)) (fun _ _ => Sum.inr (α := Int) (Sum.inl (β := Unit) ((k : Int), (26 : Int)))) 0 (l.take k)) :=
          Zv (l.take k) _ _ (fun j hj => by
            rw [hlen] at hj
            unfold Qis
            rw [XN hj, cond_true, Xs (show j < l.length by omega), Qw, Xs hk, Qw, XP j (by omega)]
            simp only [List.getElem_take]) (by
            rw [hlen]
            unfold Qis
            rw [XO]; rfl)
        rw [hs]
        unfold Qit Jq
        rw [XN hk, cond_true, Xs hk, Qw, Qot _ _ (by omega), Qw, inner]
        by_cases ht : Yd n l[k].Train < 0
        · rw [decide_eq_true ht, if_pos ht]; rfl
        · rw [decide_eq_false ht, if_neg ht, cond_false, Qw]
          rcases Qaq (p := fun y : FeedDeparture => decide (y.Train = l[k].Train)) (res := fun _ _ => Sum.inr (α := Int) (Sum.inl (β := Unit) ((k : Int), (26 : Int)))) (l.take k) 0 with ⟨k1, k2⟩ | ⟨j, x, k1, k2, k3⟩
          · rw [k1, k2]
            simp only [jn0, Qw, Qbp, XP k (show k < 4611686018427387904 by omega)]
            generalize (decide (0 ≤ l[k].At) && decide (l[k].At ≤ 1000)) = b
            cases b <;> rfl
          · rw [k1, k3]; rfl) (fun _ => by
        unfold Qit
        rw [XO]; rfl)
    rw [key, Qw]
    cases X4 (YB n l) l.length <;> rfl
end Go.Gw

end
section
set_option maxRecDepth 4096
namespace Go.Gw
open Go
/-! ### The greatest common divisor -/
noncomputable def QJu (n A : Int) : Frac := (QCc n A).getD default
/-! ### Sums -/
theorem Qzy {c : Int} (hc : 0 ≤ c) : ∀ {l : List Int}, (∀ x ∈ l, -c ≤ x ∧ x ≤ c) → -(c * l.length) ≤ l.sum ∧ l.sum ≤ c * l.length
  | [], _ => by simp
  | x :: l, h => by
    have h1 := h x (List.mem_cons_self ..)
    have h2 := Qzy hc (l := l) fun y hy => h y (List.mem_cons_of_mem _ hy)
    simp only [List.sum_cons, List.length_cons]
    have : c * ((l.length + 1 : Nat) : Int) = c * l.length + c := by rw [Int.natCast_add, Int.mul_add]; simp
    rw [this]
    omega
end Go.Gw

end
section
set_option maxRecDepth 4096
namespace Go.Gw
open Go
def Y7 (st : List FeedStep) (k : Int) (s : Nat) : Int := if 0 ≤ k ∧ k ≤ (st.length : Int) - 1 then (match st[k.toNat]? with | some x => if x.Section = (s : Int) then x.Power else 0 | none => 0) else 0
def XH (l : List feed_run) (t : Int) (s : Nat) : Int := (l.map fun r => Y7 r.FeedTrain.Steps (t - r.at_) s).sum
def ZH (m : Nat) (r : feed_run) : Prop := (∀ x ∈ r.FeedTrain.Steps, 0 ≤ x.Section ∧ x.Section ≤ (m : Int) - 1 ∧ -20000 ≤ x.Power ∧ x.Power ≤ 20000) ∧ r.FeedTrain.Steps.length ≤ 12 ∧ 0 ≤ r.at_ ∧ r.at_ ≤ 1000
theorem QDc {m : Nat} {r : feed_run} (h : ZH m r) (k : Int) (s : Nat) : -20000 ≤ Y7 r.FeedTrain.Steps k s ∧ Y7 r.FeedTrain.Steps k s ≤ 20000 := by
  unfold Y7
  split
  · split
    · rename_i x hx
      have := h.1 x (List.mem_of_getElem? hx)
      split <;> omega
    · omega
  · omega
theorem Qxo {m : Nat} {l : List feed_run} (h : ∀ r ∈ l, ZH m r) (t : Int) (s : Nat) : -(20000 * (l.length : Int)) ≤ XH l t s ∧ XH l t s ≤ 20000 * (l.length : Int) := by
  have := Qzy (c := 20000) (by omega) (l := l.map fun r => Y7 r.FeedTrain.Steps (t - r.at_) s) fun x hx => by
    obtain ⟨r, hr, rfl⟩ := List.mem_map.1 hx
    exact QDc (h r hr) _ _
  simpa [XH] using this
theorem Qos {l : List feed_run} {t : Int} {s k : Nat} (hk : k < l.length) : XH (l.take (k + 1)) t s = XH (l.take k) t s + Y7 l[k].FeedTrain.Steps (t - l[k].at_) s := by
  unfold XH
  rw [List.take_add_one, List.getElem?_eq_getElem hk, List.map_append, List.sum_append]
  simp
theorem QOl {m : Nat} {f g : Nat → Int} {s : Nat} (hs : s < m) (hv : ∀ i, i ≠ s → g i = f i) : ((List.range m).map f).set s (g s) = (List.range m).map g := by
  apply List.ext_getElem?
  intro i
  by_cases hi : i = s
  · subst hi
    rw [List.getElem?_set_self (by simpa using hs)]
    simp [hs]
  · rw [List.getElem?_set_ne (Ne.symm hi)]
    by_cases him : i < m
    · simp [him, hv i hi]
    · simp [him]
theorem Qvw (m : Nat) (h : m < 1000) : mk (m : Int) (0 : Int) = some ((List.range m).map fun _ => (0 : Int)) := by
  unfold mk
  rw [if_pos (by omega)]
  congr 1
  apply List.ext_getElem?
  intro i
  by_cases hi : i < m <;> simp [hi]
theorem QQc {m : Nat} {r : feed_run} (h : ZH m r) {t : Int} (ht : 0 ≤ t) (ht2 : t ≤ 100000) :
    ∃ o, Qcv r t = some o ∧ ((o.2 = false ∧ ∀ s, Y7 r.FeedTrain.Steps (t - r.at_) s = 0) ∨ (o.2 = true ∧ 0 ≤ o.1.Section ∧ o.1.Section ≤ (m : Int) - 1 ∧ -20000 ≤ o.1.Power ∧ o.1.Power ≤ 20000 ∧ ∀ s : Nat, Y7 r.FeedTrain.Steps (t - r.at_) s = if o.1.Section = (s : Int) then o.1.Power else 0)) := by
  obtain ⟨h1, h2, h3, h4⟩ := h
  unfold Qcv
  rw [XK (by omega), XK (by omega), Qac, Qw]
  by_cases hin : 0 ≤ t - r.at_ ∧ t - r.at_ ≤ (r.FeedTrain.Steps.length : Int) - 1
  · have e : (decide (0 ≤ t - r.at_) && decide (t - r.at_ ≤ (r.FeedTrain.Steps.length : Int) - 1)) = true := by
      rw [decide_eq_true hin.1, decide_eq_true hin.2]; rfl
    have hk : (t - r.at_).toNat < r.FeedTrain.Steps.length := by omega
    have hidx : idx r.FeedTrain.Steps (t - r.at_) = some r.FeedTrain.Steps[(t - r.at_).toNat] := by
      unfold idx; rw [if_pos hin.1, List.getElem?_eq_getElem hk]
    rw [e]
    simp only [Bool.not_true, cond_false]
    rw [hidx, Qw]
    have hb := h1 _ (List.getElem_mem hk)
    refine ⟨_, rfl, .inr ⟨rfl, hb.1, hb.2.1, hb.2.2.1, hb.2.2.2, fun s => ?_⟩⟩
    unfold Y7
    rw [if_pos hin, List.getElem?_eq_getElem hk]
  · have e : (decide (0 ≤ t - r.at_) && decide (t - r.at_ ≤ (r.FeedTrain.Steps.length : Int) - 1)) = false := by
      rw [Bool.eq_false_iff]; intro e; simp at e; exact hin (by omega)
    rw [e]
    exact ⟨_, rfl, .inl ⟨rfl, fun s => by unfold Y7; rw [if_neg hin]⟩⟩
theorem QMw {n : FeedNet} {l : List feed_run} (hn : n.Sections.length < 1000) (hl : l.length ≤ 8) (h : ∀ r ∈ l, ZH n.Sections.length r) {t : Int} (ht : 0 ≤ t) (ht2 : t ≤ 100000) :
    Qcu ⟨n⟩ l t = some ((List.range n.Sections.length).map (XH l t)) := by
  have key : loop (Qer l t) ((List.range n.Sections.length).map (fun _ => (0 : Int)), 0) = some ((List.range n.Sections.length).map (XH l t)) :=
    Zm (fun k => ((List.range n.Sections.length).map (XH (l.take k) t), (k : Int))) l.length (fun k hk => by
      obtain ⟨o, ho, hc⟩ := QQc (h _ (List.getElem_mem hk)) ht ht2
      unfold Qer
      simp only [XN hk, cond_true, Xs hk, Qw, ho]
      rw [XP k (by omega)]
      rcases hc with ⟨h1, h2⟩ | ⟨h1, h2, h3, h4, h5, h6⟩
      · rw [h1, cond_false]
        congr 3
        apply List.map_congr_left
        intro s _
        rw [Qos hk, h2 s]; simp
      · rw [h1, cond_true]
        have hs : o.1.Section.toNat < n.Sections.length := by omega
        have hsi : ((o.1.Section.toNat : Nat) : Int) = o.1.Section := by omega
        have hidx : idx ((List.range n.Sections.length).map (XH (l.take k) t)) o.1.Section = some (XH (l.take k) t o.1.Section.toNat) := by
          unfold idx; rw [if_pos h2]; simp [hs]
        have hb := Qxo (l := l.take k) (fun r hr => h r (List.mem_of_mem_take hr)) t o.1.Section.toNat
        have hlen : (l.take k).length ≤ 8 := by rw [List.length_take]; omega
        have hnew : w64 (XH (l.take k) t o.1.Section.toNat + o.1.Power) = XH (l.take (k + 1)) t o.1.Section.toNat := by
          rw [Qos hk, h6, if_pos (by omega)]; exact XK (by omega)
        rw [hidx, Qw, Qw, hnew, QOl (f := XH (l.take k) t) (g := XH (l.take (k + 1)) t) hs (fun i hi => by rw [Qos hk, h6, if_neg (by omega)]; simp)]) (by
      unfold Qer
      simp only [XO, cond_false, List.take_length])
  unfold Qcu
  rw [Qvw _ hn, Qw, key]; rfl
end Go.Gw

end
section
set_option maxRecDepth 4096
namespace Go.Gw
open Go
structure NetOk (n : FeedNet) : Prop where
  st0 : 0 < n.Stations.length
  st6 : n.Stations.length ≤ 6
  se0 : 0 < n.Sections.length
  se10 : n.Sections.length ≤ 10
  tr6 : n.Trains.length ≤ 6
  lim : ∀ s ∈ n.Stations, 0 ≤ s.Limit ∧ s.Limit ≤ 100000
  sec : ∀ s ∈ n.Sections, Je s n.Stations.length = 0
  tr : ∀ t ∈ n.Trains, Zp t n.Sections.length = 0
theorem Qus {f : Nat → Int} {n : Nat} (h : (match X4 f n with | some i => f i | none => 0) = 0) : ∀ j, j < n → f j = 0 := by
  rcases JY f n with ⟨h1, h2⟩ | ⟨i, h1, h2, h3, h4⟩
  · exact h2
  · rw [h1] at h; exact absurd h h3
theorem Qbf {n : FeedNet} (h : (X6 n).2 = 0) : NetOk n := by
  unfold X6 at h
  split at h
  · cases h
  · rename_i h1
    split at h
    · cases h
    · rename_i h2
      rcases JY (ZC n) n.Stations.length with ⟨a1, a2⟩ | ⟨i, a1, a2, a3, _⟩
      · rw [a1] at h
        rcases JY (ZB n) n.Sections.length with ⟨b1, b2⟩ | ⟨i, b1, b2, b3, _⟩
        · rw [b1] at h
          rcases JY (Ze n) n.Trains.length with ⟨c1, c2⟩ | ⟨i, c1, c2, c3, _⟩
          · refine ⟨by omega, by omega, by omega, by omega, by omega, fun s hs => ?_, fun s hs => ?_, fun t ht => ?_⟩
            · obtain ⟨k, hk, rfl⟩ := List.mem_iff_getElem.1 hs
              have := a2 k hk
              rw [show ZC n k = stE n.Stations[k] ((n.Stations.take k).map (·.Name)) from ZN _ _ _ hk] at this
              unfold stE at this
              split at this
              · rename_i hc; exact absurd this hc
              · cases hb : (decide (0 ≤ n.Stations[k].Limit) && decide (n.Stations[k].Limit ≤ 100000)) with
                | true => simpa using hb
                | false => rw [hb] at this; cases this
            · obtain ⟨k, hk, rfl⟩ := List.mem_iff_getElem.1 hs
              have := b2 k hk
              rwa [show ZB n k = Je n.Sections[k] n.Stations.length from ZN _ _ _ hk] at this
            · obtain ⟨k, hk, rfl⟩ := List.mem_iff_getElem.1 ht
              have := c2 k hk
              rw [show Ze n k = trE n.Trains[k] ((n.Trains.take k).map (·.Name)) n.Sections.length from ZN _ _ _ hk] at this
              unfold trE at this
              split at this
              · rename_i hc; exact absurd this hc
              · exact this
          · rw [c1] at h; exact absurd h c3
        · rw [b1] at h; exact absurd h b3
      · rw [a1] at h; exact absurd h a3
theorem ZS {t : FeedTrain} {m : Nat} (h : Zp t m = 0) : (0 ≤ t.Earliest ∧ t.Earliest ≤ 1000) ∧ (0 ≤ t.Latest ∧ t.Latest ≤ 1000) ∧ t.Earliest ≤ t.Latest ∧ 0 < t.Steps.length ∧ t.Steps.length ≤ 12 ∧ ∀ x ∈ t.Steps, 0 ≤ x.Section ∧ x.Section ≤ (m : Int) - 1 ∧ -20000 ≤ x.Power ∧ x.Power ≤ 20000 := by
  unfold Zp QAs at h
  cases h1 : (decide (0 ≤ t.Earliest) && decide (t.Earliest ≤ 1000)) with
  | false => rw [h1] at h; cases h
  | true =>
    cases h2 : (decide (0 ≤ t.Latest) && decide (t.Latest ≤ 1000)) with
    | false => rw [h1, h2] at h; cases h
    | true =>
      cases h3 : decide (t.Earliest ≤ t.Latest) with
      | false => rw [h1, h2, h3] at h; cases h
      | true =>
        cases h4 : decide (0 < (t.Steps.length : Int)) with
        | false => rw [h1, h2, h3, h4] at h; cases h
        | true =>
          cases h5 : decide ((t.Steps.length : Int) ≤ 12) with
          | false => rw [h1, h2, h3, h4, h5] at h; cases h
          | true =>
            rw [h1, h2, h3, h4, h5] at h
            simp only [Bool.and_self, Bool.not_true, cond_false] at h
            unfold Qjx at h
            have hz := Qus h
            simp only [Bool.and_eq_true, decide_eq_true_eq] at h1 h2 h3 h4 h5
            refine ⟨h1, h2, h3, by omega, by omega, fun x hx => ?_⟩
            obtain ⟨k, hk, rfl⟩ := List.mem_iff_getElem.1 hx
            have := hz k hk
            rw [Qnp _ _ _ hk] at this
            unfold Jf at this
            cases a : (decide (0 ≤ t.Steps[k].Section) && decide (t.Steps[k].Section ≤ (m : Int) - 1)) with
            | false => rw [a] at this; cases this
            | true =>
              cases b : (decide (-20000 ≤ t.Steps[k].Power) && decide (t.Steps[k].Power ≤ 20000)) with
              | false => rw [a, b] at this; cases this
              | true =>
                simp only [Bool.and_eq_true, decide_eq_true_eq] at a b
                exact ⟨a.1, a.2, b.1, b.2⟩
theorem QOa {n : FeedNet} (hn : NetOk n) {d : FeedDeparture} {o : List FeedDeparture} (h : Jq n d o = 0) : ZH n.Sections.length (Xc n d) := by
  have h0 := Qls h
  obtain ⟨t, h1, h2, h3⟩ := Qki h0
  have ht := ZS (hn.tr t (List.mem_of_getElem? h1))
  unfold Jq at h
  rw [if_neg (by omega)] at h
  split at h
  · cases h
  · cases b : (decide (0 ≤ d.At) && decide (d.At ≤ 1000)) with
    | false => rw [b] at h; cases h
    | true =>
      simp only [Bool.and_eq_true, decide_eq_true_eq] at b
      unfold ZH Xc
      rw [h1]
      exact ⟨ht.2.2.2.2.2, ht.2.2.2.2.1, b.1, b.2⟩
end Go.Gw

end
section
set_option maxRecDepth 4096
namespace Go.Gw
open Go
structure LadOk (l : FeedLadder) : Prop where
  pos : 0 < l.Loads.length
  most : l.Loads.length ≤ 8
  len : l.Ohms.length = l.Loads.length + 1
  ohm : ∀ x ∈ l.Ohms, 1 ≤ x ∧ x ≤ 500
  load : ∀ x ∈ l.Loads, -20000 ≤ x ∧ x ≤ 20000
theorem Qan {a b m n : Int} (ha : -m ≤ a ∧ a ≤ m) (hb : -n ≤ b ∧ b ≤ n) : -(m * n) ≤ a * b ∧ a * b ≤ m * n := by
  have h1 : a.natAbs ≤ m.natAbs := by omega
  have h2 : b.natAbs ≤ n.natAbs := by omega
  have h3 := Nat.mul_le_mul h1 h2
  rw [← Int.natAbs_mul, ← Int.natAbs_mul] at h3
  have h4 : 0 ≤ m * n := Int.mul_nonneg (by omega) (by omega)
  omega
def pk (l : FeedLadder) (k : Nat) : Int := (l.Loads.take k).sum
def lf (l : FeedLadder) : Nat → Int
  | 0 => 0
  | k + 1 => lf l k + l.Ohms.getD k 0 * pk l k
def rk (l : FeedLadder) : Nat → Int
  | 0 => 0
  | k + 1 => rk l k + l.Loads.getD k 0 * (l.Ohms.drop (k + 1)).sum
section
variable {l : FeedLadder} (h : LadOk l)
include h
end
noncomputable def QSn (l : FeedLadder) (A L : Int) (n : Nat) : List Frac := (List.range n).map fun i => QJu (L - pk l i * A) A
section
variable {l : FeedLadder} (h : LadOk l)
include h
end
end Go.Gw

end
section
set_option maxRecDepth 4096
namespace Go.Gw
open Go
def Yz (s : FeedSection) (p : Int) : Int := if p < 0 then p * (1000 - s.Loss) else p * (1000 + s.Loss)
def X7 (s : FeedSection) (k : Int) : Int := if s.Left = k then s.Share else if s.Right = k then 1000 - s.Share else 0
def ZJ (s : FeedSection) : Prop := (0 ≤ s.Share ∧ s.Share ≤ 1000) ∧ 0 ≤ s.Loss ∧ s.Loss ≤ 500
theorem Qjj {s : FeedSection} {n : Nat} (h : Je s n = 0) : ZJ s := by
  unfold Je Qyo at h
  have key : ((decide (0 ≤ s.Share) && decide (s.Share ≤ 1000)) && (decide (0 ≤ s.Loss) && decide (s.Loss ≤ 500))) = true := by
    cases hb : ((decide (0 ≤ s.Share) && decide (s.Share ≤ 1000)) && (decide (0 ≤ s.Loss) && decide (s.Loss ≤ 500))) with
    | true => rfl
    | false =>
      rw [hb] at h
      revert h
      generalize ((!(decide (s.Left = -1) || (decide (0 ≤ s.Left) && decide (s.Left ≤ (n : Int) - 1)))) || !(decide (s.Right = -1) || (decide (0 ≤ s.Right) && decide (s.Right ≤ (n : Int) - 1)))) = a
      generalize (decide (s.Left = -1) && decide (s.Right = -1)) = b
      generalize decide (s.Left = s.Right) = c
      cases a <;> cases b <;> cases c <;> intro h <;> cases h
  simp only [Bool.and_eq_true, decide_eq_true_eq] at key
  exact ⟨key.1, key.2⟩
theorem Qlu {s : FeedSection} (hs : ZJ s) {p : Int} (hp : -160000 ≤ p ∧ p ≤ 160000) : -240000000 ≤ Yz s p ∧ Yz s p ≤ 240000000 := by
  obtain ⟨_, h1, h2⟩ := hs
  unfold Yz
  split
  · have := Qan (a := p) (b := 1000 - s.Loss) (m := 160000) (n := 1500) hp (by omega); omega
  · have := Qan (a := p) (b := 1000 + s.Loss) (m := 160000) (n := 1500) hp (by omega); omega
theorem Qjk {s : FeedSection} (hs : ZJ s) (k : Int) : -1000 ≤ X7 s k ∧ X7 s k ≤ 1000 := by
  obtain ⟨h0, _⟩ := hs
  unfold X7
  split
  · omega
  · split <;> omega
theorem QDv {s : FeedSection} (hs : ZJ s) {p : Int} (hp : -160000 ≤ p ∧ p ≤ 160000) : Qcm s p = some (Yz s p) := by
  have hb := Qlu hs hp
  obtain ⟨_, h1, h2⟩ := hs
  unfold Qcm Yz at *
  by_cases h : p < 0
  · rw [if_pos h] at hb ⊢
    rw [decide_eq_true h, cond_true, XK (x := 1000 - s.Loss) (by omega), XK (by omega)]
  · rw [if_neg h] at hb ⊢
    rw [decide_eq_false h, cond_false, XK (x := 1000 + s.Loss) (by omega), XK (by omega)]
theorem QNi {s : FeedSection} (hs : ZJ s) (k : Int) : Qoy s k = some (X7 s k) := by
  obtain ⟨h0, _⟩ := hs
  unfold Qoy X7
  by_cases h1 : s.Left = k
  · rw [decide_eq_true h1, if_pos h1]; rfl
  · rw [decide_eq_false h1, if_neg h1]
    by_cases h2 : s.Right = k
    · rw [decide_eq_true h2, if_pos h2]
      simp only [cond_false, cond_true]
      rw [XK (by omega)]
    · rw [decide_eq_false h2, if_neg h2]; rfl
theorem Qrn {s : FeedSection} (hs : ZJ s) (k : Int) : Qbs s k = some (X7 s k) := by
  rw [← QNi hs k]
  unfold Qbs Qoy
  rw [show decide (k = s.Left) = decide (s.Left = k) from decide_eq_decide.2 eq_comm, show decide (k = s.Right) = decide (s.Right = k) from decide_eq_decide.2 eq_comm]
end Go.Gw

end
section
set_option maxRecDepth 4096
namespace Go.Gw
open Go
def Zl (secs : List FeedSection) (f : Nat → Int) (k : Nat) : Nat → Int
  | 0 => 0
  | j + 1 => Zl secs f k j + (secs[j]?.map fun s => Yz s (f j) * X7 s (k : Int)).getD 0
section
variable {secs : List FeedSection} {f : Nat → Int} (hs : ∀ s ∈ secs, ZJ s) (hf : ∀ j, -160000 ≤ f j ∧ f j ≤ 160000)
include hs hf
theorem QQy (k j : Nat) : -240000000000 ≤ (secs[j]?.map fun s => Yz s (f j) * X7 s (k : Int)).getD 0 ∧ (secs[j]?.map fun s => Yz s (f j) * X7 s (k : Int)).getD 0 ≤ 240000000000 := by
  by_cases hj : j < secs.length
  · rw [List.getElem?_eq_getElem hj]
    have h1 := hs _ (List.getElem_mem hj)
    have := Qan (Qlu h1 (hf j)) (Qjk h1 (k : Int))
    simp only [Option.map_some, Option.getD_some]
    omega
  · rw [List.getElem?_eq_none (Nat.le_of_not_lt hj)]; simp
theorem Qvh (k : Nat) : ∀ j : Nat, -(240000000000 * (j : Int)) ≤ Zl secs f k j ∧ Zl secs f k j ≤ 240000000000 * (j : Int)
  | 0 => by simp [Zl]
  | j + 1 => by
    have h1 := Qvh k j
    have h2 := QQy hs hf k j
    simp only [Zl]
    omega
end
theorem QIz {secs : List FeedSection} {f : Nat → Int} {k j : Nat} (hj : j < secs.length) : (secs[j]?.map fun s => Yz s (f j) * X7 s (k : Int)).getD 0 = Yz secs[j] (f j) * X7 secs[j] (k : Int) := by
  rw [List.getElem?_eq_getElem hj]; rfl
theorem QNm (m j : Nat) (hj : j < m) (f g : Nat → Int) : ((List.range m).map fun i => if i < j then g i else f i).set j (g j) = (List.range m).map fun i => if i < j + 1 then g i else f i := by
  apply List.ext_getElem?
  intro i
  by_cases hi : i = j
  · subst hi
    rw [List.getElem?_set_self (by simpa using hj)]
    simp [hj]
  · rw [List.getElem?_set_ne (Ne.symm hi)]
    by_cases him : i < m
    · simp only [List.getElem?_map, List.getElem?_range him, Option.map_some, Option.some.injEq]
      by_cases h1 : i < j
      · rw [if_pos h1, if_pos (by omega)]
      · rw [if_neg h1, if_neg (by omega)]
    · simp [him]
theorem QJf (m j : Nat) (hj : j < m) (f g : Nat → Int) : idx ((List.range m).map fun i => if i < j then g i else f i) (j : Int) = some (f j) := by
  rw [Xs?]
  simp [hj]
theorem QDw {s : FeedSection} (hs : ZJ s) {p : Int} (hp : -160000 ≤ p ∧ p ≤ 160000) {m : Nat} (hm : m < 1000) {f : Nat → Int} (hf : ∀ i, -1000000000000000 ≤ f i ∧ f i ≤ 1000000000000000) :
    loop (Qco p s ((List.range m).map f)) ((List.range m).map f, 0) = some ((List.range m).map fun i => f i + Yz s p * X7 s (i : Int)) := by
  have e0 : ((List.range m).map fun i => if i < 0 then f i + Yz s p * X7 s (i : Int) else f i) = (List.range m).map f := by
    apply List.map_congr_left; intro i _; simp
  have eN : ((List.range m).map fun i => if i < m then f i + Yz s p * X7 s (i : Int) else f i) = (List.range m).map fun i => f i + Yz s p * X7 s (i : Int) := by
    apply List.map_congr_left; intro i hi; rw [if_pos (List.mem_range.1 hi)]
  have hlen : (((List.range m).map f).length : Int) = (m : Int) := by simp
  have key := Zm (step := Qco p s ((List.range m).map f)) (o := (List.range m).map fun i => f i + Yz s p * X7 s (i : Int)) (fun j => ((List.range m).map fun i => if i < j then f i + Yz s p * X7 s (i : Int) else f i, (j : Int))) m (fun j hj => by
    have hb := Qan (Qlu hs hp) (Qjk hs (j : Int))
    have hfj := hf j
    unfold Qco
    simp only [hlen, XN hj, cond_true, QJf m j hj f (fun i => f i + Yz s p * X7 s (i : Int)), Qw]
    rw [QDv hs hp, Qw, Qrn hs, Qw, XK (x := Yz s p * X7 s (j : Int)) (by omega), XK (x := f j + Yz s p * X7 s (j : Int)) (by omega), XP j (by omega)]
    simp only [Int.toNat_natCast]
    rw [QNm m j hj f (fun i => f i + Yz s p * X7 s (i : Int))]) (by
    unfold Qco
    simp only [hlen, XO, cond_false, eN])
  simp only [e0] at key
  exact key
def Qam (n : FeedNet) (f : Nat → Int) : List Int := (List.range n.Stations.length).map fun k => Zl n.Sections f k n.Sections.length
theorem QDy {n : FeedNet} (hn : NetOk n) {l : List feed_run} (hl : l.length ≤ 8) (h : ∀ r ∈ l, ZH n.Sections.length r) {t : Int} (ht : 0 ≤ t) (ht2 : t ≤ 100000) : Qcp ⟨n⟩ l t = some (Qam n (XH l t)) := by
  have h1 := hn.st6
  have h2 := hn.se10
  have hs : ∀ s ∈ n.Sections, ZJ s := fun s hx => Qjj (hn.sec s hx)
  have hf : ∀ j, -160000 ≤ XH l t j ∧ XH l t j ≤ 160000 := fun j => by have := Qxo h t j; omega
  have hlen : (((List.range n.Sections.length).map (XH l t)).length : Int) = (n.Sections.length : Int) := by simp
  have key : loop (Qep ⟨n⟩ ((List.range n.Sections.length).map (XH l t))) ((List.range n.Stations.length).map (fun _ => (0 : Int)), 0) = some (Qam n (XH l t)) :=
    Zm (fun j => ((List.range n.Stations.length).map (fun k => Zl n.Sections (XH l t) k j), (j : Int))) n.Sections.length (fun j hj => by
      have hb : ∀ k, -1000000000000000 ≤ Zl n.Sections (XH l t) k j ∧ Zl n.Sections (XH l t) k j ≤ 1000000000000000 := fun k => by have := Qvh hs hf k j; omega
      have hidx : idx ((List.range n.Sections.length).map (XH l t)) (j : Int) = some (XH l t j) := by rw [Xs?]; simp [hj]
      unfold Qep
      simp only [hlen, XN hj, cond_true, hidx, Qw, Xs hj]
      rw [QDw (hs _ (List.getElem_mem hj)) (hf j) (by omega) hb, Qw, XP j (by omega)]
      congr 3
      apply List.map_congr_left
      intro k _
      simp only [Zl, QIz hj]) (by
      unfold Qep Qam
      simp only [hlen, XO, cond_false])
  unfold Qcp
  show (Option.bind (mk (n.Stations.length : Int) (0 : Int)) _) = _
  rw [Qvw _ (by omega), Qw, QMw (by omega) hl h ht ht2, Qw, key]
  rfl
end Go.Gw

end
section
set_option maxRecDepth 4096
namespace Go.Gw
open Go
def pd (t : Int) (s : Nat) (r : feed_run) : List Int := if 0 ≤ t - r.at_ ∧ t - r.at_ ≤ (r.FeedTrain.Steps.length : Int) - 1 then (match r.FeedTrain.Steps[(t - r.at_).toNat]? with | some x => if x.Section = (s : Int) then [x.Power] else [] | none => []) else []
end Go.Gw

end
section
set_option maxRecDepth 4096
namespace Go.Gw
open Go
noncomputable def Qre (f : Frac) : Int := if 0 < f.Den ∧ Qqj f.Num f.Den = some 1 then (if -1000000000 ≤ f.Num ∧ f.Num ≤ 1000000000 ∧ f.Den ≤ 1000000000 then 0 else 2) else 3
noncomputable def QDa : List Frac → Int
  | [] => 0
  | f :: l => if Qre f = 0 then QDa l else Qre f
end Go.Gw

end
section
set_option maxRecDepth 4096
namespace Go.Gw
open Go
def Qhh (n : FeedNet) (l : List FeedDeparture) : Int := if 6 < l.length then 8 else match X4 (YB n l) l.length with | some i => YB n l i | none => 0
def JF (n : FeedNet) (l : List FeedDeparture) : Int := if (X6 n).2 ≠ 0 then (X6 n).2 else Qhh n l
def QSt (n : FeedNet) (s : Int) : Int := if 0 ≤ s ∧ s ≤ (n.Sections.length : Int) - 1 then 0 else 6
def JU (t : Int) : Int := if 0 ≤ t ∧ t ≤ 1012 then 0 else 2
theorem Qdp (a b : Prop) [Decidable a] [Decidable b] : (decide a && decide b) = decide (a ∧ b) := (Bool.decide_and a b).symm
theorem Qrp (t : Int) : Qbv t = some (JU t) := by
  unfold Qbv JU
  rw [Qac, Qw, ZU, Qw, Qdp]
  by_cases h : 0 ≤ t ∧ t ≤ 1012 <;> simp [h]
theorem QMd {n : FeedNet} (h : NetS n) (l : List FeedDeparture) : Qba n l = some (⟨n⟩, (if JF n l = 0 then l.map (Xc n) else []), JF n l) := by
  unfold Qba Qaj JF
  rw [Qmc h, Qw, Qw]
  by_cases h0 : (X6 n).2 = 0
  · simp only [h0, ne_eq, not_true_eq_false, if_false, decide_true, Bool.not_true, cond_false]
    rw [show feed_net.mk (FeedNet.mk n.Stations n.Sections n.Trains) = feed_net.mk n from rfl, QEf n l h.tr, Qw]
    unfold Qhh
    by_cases h6 : 6 < l.length
    · simp [h6]
    · rw [if_neg h6, if_neg h6]
      rcases JY (YB n l) l.length with ⟨e, _⟩ | ⟨i, e, _, hi, _⟩
      · rw [e]; simp
      · rw [e]; simp [hi]
  · simp [h0]
theorem Quy (a b c : Int) : Zk [a, b, c] = if a ≠ 0 then a else if b ≠ 0 then b else c := by
  unfold Zk Zk Zk Zk; by_cases h : a = 0 <;> by_cases h2 : b = 0 <;> by_cases h3 : c = 0 <;> simp [h, h2, h3]
theorem Qll {n : FeedNet} {l : List FeedDeparture} (h : JF n l = 0) : NetOk n ∧ l.length ≤ 6 ∧ ∀ d ∈ l, ZH n.Sections.length (Xc n d) ∧ 0 ≤ Yd n d.Train := by
  unfold JF at h
  by_cases h0 : (X6 n).2 = 0
  · have hn := Qbf h0
    simp only [h0, ne_eq, not_true_eq_false, if_false] at h
    unfold Qhh at h
    by_cases h6 : 6 < l.length
    · rw [if_pos h6] at h; omega
    · rw [if_neg h6] at h
      refine ⟨hn, by omega, fun d hd => ?_⟩
      obtain ⟨k, hk, rfl⟩ := List.getElem_of_mem hd
      have hz := Qus h k hk
      unfold YB at hz
      rw [List.getElem?_eq_getElem hk] at hz
      exact ⟨QOa hn hz, Qls hz⟩
  · rw [if_pos h0] at h; exact absurd h h0
end Go.Gw

end
section
set_option maxRecDepth 4096
namespace Go.Gw
open Go
def ZD (n : FeedNet) (s : Int) : Int := if 0 ≤ s ∧ s ≤ (n.Stations.length : Int) - 1 then 0 else 6
theorem Qzu {n : FeedNet} {s : Int} (h : ZD n s = 0) : 0 ≤ s ∧ s ≤ (n.Stations.length : Int) - 1 := by
  unfold ZD at h; split at h; assumption; cases h
theorem QEj {n : FeedNet} (hn : n.Stations.length < 1000) (s : Int) : Qex ⟨n⟩ s = some (ZD n s) := by
  unfold Qex ZD
  simp only []
  rw [XK (x := (n.Stations.length : Int) - 1) (by omega), Qac, Qw, ZU, Qw, Qdp]
  by_cases h : 0 ≤ s ∧ s ≤ (n.Stations.length : Int) - 1 <;> simp [h]
def onI (r : feed_run) (t : Int) : Bool := decide (0 ≤ t - r.at_) && decide (t - r.at_ ≤ (r.FeedTrain.Steps.length : Int) - 1)
theorem QJd {l : List feed_run} {t : Int} (h : l.any (fun r => onI r t) = false) : XH l t = fun _ => 0 := by
  funext s
  unfold XH
  induction l with
  | nil => rfl
  | cons r l ih =>
    rw [List.any_cons, Bool.or_eq_false_iff] at h
    rw [List.map_cons, List.sum_cons, ih h.2]
    have h1 := h.1
    unfold onI at h1
    rw [Qdp, decide_eq_false_iff_not] at h1
    unfold Y7
    rw [if_neg h1]; rfl
def Qnw (n : FeedNet) (l : List FeedDeparture) (t : Int) (s : Nat) : Int := Zl n.Sections (XH (l.map (Xc n)) t) s n.Sections.length
structure Rt (n : FeedNet) (l : List FeedDeparture) : Prop where
  ne : NetOk n
  tr : n.Trains.length < 1000
  l6 : l.length ≤ 6
  ru : ∀ d ∈ l, ZH n.Sections.length (Xc n d) ∧ 0 ≤ Yd n d.Train
theorem QNy {n : FeedNet} (h : NetS n) {l : List FeedDeparture} (hb : JF n l = 0) : Rt n l := ⟨(Qll hb).1, h.tr, (Qll hb).2.1, (Qll hb).2.2⟩
section
variable {n : FeedNet} {l : List FeedDeparture} (h : Rt n l)
include h
theorem Qyc : ∀ r ∈ l.map (Xc n), ZH n.Sections.length r := fun r hr => by obtain ⟨d, hd2, rfl⟩ := List.mem_map.1 hr; exact (h.ru d hd2).1
def pkF (n : FeedNet) (l : List FeedDeparture) (s : Nat) (k : Nat) (a : Int × Int) : Int × Int := if a.2 < Qnw n l ((k : Int) + 1) s then ((k : Int) + 1, Qnw n l ((k : Int) + 1) s) else a
def QSr (n : FeedNet) (l : List FeedDeparture) (s : Nat) : Int × Int := rng (pkF n l s) (0, Qnw n l 0 s) 1012
end
end Go.Gw

end
section
set_option maxRecDepth 4096
namespace Go.Gw
open Go
def fsO {α ρ μ : Type} (o : Option α) (res : α → ρ) (u : μ) : ρ ⊕ μ := match o with | some a => .inl (res a) | none => .inr u
theorem Qny {α σ ρ μ : Type} {step : σ → Option (σ ⊕ (ρ ⊕ μ))} (S : Nat → σ) (n : Nat) (f : Nat → Option α) (res : α → ρ) (o : μ)
    (hs : ∀ k, k < n → step (S k) = some (match f k with | some a => .inr (.inl (res a)) | none => .inl (S (k + 1))))
    (he : step (S n) = some (.inr (.inr o))) : loop step (S 0) = some (fsO ((List.range n).findSome? f) res o) := by
  have key : ∀ j k, k + j = n → loop step (S k) = some (fsO ((List.range' k j).findSome? f) res o) := by
    intro j
    induction j with
    | zero => intro k hk; obtain rfl : k = n := by omega
              exact J2 he
    | succ j ih =>
      intro k hk
      have h1 := hs k (by omega)
      rw [List.range'_succ, List.findSome?_cons]
      cases hf : f k with
      | some a => rw [hf] at h1; exact J2 h1
      | none => rw [hf] at h1; rw [Qfh h1]; exact ih (k + 1) (by omega)
  rw [List.range_eq_range']
  exact key n 0 (by omega)
theorem Qhy {α β : Type} (f : β → α → β) (a : β) (l : List α) (k : Nat) (hk : k < l.length) : (l.take (k + 1)).foldl f a = f ((l.take k).foldl f a) l[k] := by
  rw [List.take_add_one, List.getElem?_eq_getElem hk, List.foldl_append]; rfl
def JL (a : Int) (r : feed_run) : Int := if r.at_ < a then r.at_ else a
def JI (a : Int) (r : feed_run) : Int := if a < r.at_ + 12 then r.at_ + 12 else a
def Y0 (rs : List feed_run) : Int := rs.foldl JL 1012
def JJ (rs : List feed_run) : Int := rs.foldl JI 0
def JK (n : FeedNet) (k : Nat) : Int := (n.Stations[k]?.map (·.Limit)).getD 0
def ldR (n : FeedNet) (rs : List feed_run) (t : Int) (k : Nat) : Int := Zl n.Sections (XH rs t) k n.Sections.length
def ov1 (n : FeedNet) (rs : List feed_run) (t : Int) (k : Nat) : Option FeedPeak := if 1000000 * JK n k < ldR n rs t k then some (FeedPeak.mk t k (ldR n rs t k)) else none
def ovS (n : FeedNet) (rs : List feed_run) (t : Int) : Option FeedPeak := (List.range n.Stations.length).findSome? (ov1 n rs t)
def Zc (n : FeedNet) (rs : List feed_run) : Option FeedPeak := (List.range (JJ rs - Y0 rs + 1).toNat).findSome? fun (j : Nat) => ovS n rs (Y0 rs + j)
def pkB (o : Option FeedPeak) : FeedPeak × Bool := match o with | some p => (p, true) | none => (FeedPeak.mk 0 0 0, false)
theorem QJs {rs : List feed_run} (h : ∀ r ∈ rs, 0 ≤ r.at_ ∧ r.at_ ≤ 1000) : 0 ≤ Y0 rs ∧ Y0 rs ≤ 1012 := by
  have key : ∀ (l : List feed_run) a, (∀ r ∈ l, 0 ≤ r.at_ ∧ r.at_ ≤ 1000) → 0 ≤ a ∧ a ≤ 1012 → 0 ≤ l.foldl JL a ∧ l.foldl JL a ≤ 1012 := by
    intro l
    induction l with
    | nil => intro a _ h; exact h
    | cons r l ih =>
      intro a hr ha
      have := hr r (List.mem_cons_self ..)
      exact ih _ (fun x hx => hr x (List.mem_cons_of_mem _ hx)) (by unfold JL; split <;> omega)
  exact key rs 1012 h (by omega)
theorem QJb {rs : List feed_run} (h : ∀ r ∈ rs, 0 ≤ r.at_ ∧ r.at_ ≤ 1000) : 0 ≤ JJ rs ∧ JJ rs ≤ 1012 := by
  have key : ∀ (l : List feed_run) a, (∀ r ∈ l, 0 ≤ r.at_ ∧ r.at_ ≤ 1000) → 0 ≤ a ∧ a ≤ 1012 → 0 ≤ l.foldl JI a ∧ l.foldl JI a ≤ 1012 := by
    intro l
    induction l with
    | nil => intro a _ h; exact h
    | cons r l ih =>
      intro a hr ha
      have := hr r (List.mem_cons_self ..)
      exact ih _ (fun x hx => hr x (List.mem_cons_of_mem _ hx)) (by unfold JI; split <;> omega)
  exact key rs 0 h (by omega)
theorem Qhf (x y : Int) : Qay x y = some (if x < y then -1 else if y < x then 1 else 0) := by
  unfold Qay Qeg
  simp only [decide_true, Bool.not_true, Qw, cond_false]
  by_cases h1 : x < y
  · simp [h1]
  · by_cases h2 : y < x <;> simp [h1, h2]
def mnF (a r : feed_run) : feed_run := if r.at_ < a.at_ then r else a
def JO (a r : feed_run) : feed_run := if a.at_ < r.at_ then r else a
def J0 (r : feed_run) : ByteArray × Int × Int × List FeedStep × Int := (r.FeedTrain.Name, r.FeedTrain.Earliest, r.FeedTrain.Latest, r.FeedTrain.Steps, r.at_)
theorem QKf (r0 : feed_run) (l : List feed_run) (hl : l.length < 1000000) : Qfz (r0 :: l) = some (l.foldl mnF r0) := by
  have key : loop (Qfy (r0 :: l)) (1, J0 r0) = some (J0 (l.foldl mnF r0)) :=
    Zm (fun k => ((k : Int) + 1, J0 ((l.take k).foldl mnF r0))) l.length (fun k hk => by
      unfold Qfy Qcq J0
      have hi : idx (r0 :: l) ((k : Int) + 1) = some l[k] := by
        rw [show (k : Int) + 1 = ((k + 1 : Nat) : Int) by omega, Xs (show k + 1 < (r0 :: l).length by simpa using hk)]; rfl
      simp only [hi, Qw, Qhf, Qhy _ _ _ _ hk]
      rw [decide_eq_true (by simp; omega), cond_true, XK (x := (k : Int) + 1 + 1) (by omega)]
      generalize List.foldl mnF r0 (List.take k l) = a
      unfold mnF
      by_cases h1 : l[k].at_ < a.at_
      · simp [h1]
      · by_cases h2 : a.at_ < l[k].at_ <;> simp [h1, h2]) (by
      unfold Qfy
      rw [List.take_length]
      unfold J0
      simp)
  unfold Qfz
  rw [decide_eq_false (show ¬ (((r0 :: l).length : Nat) : Int) < 1 by simp; omega), cond_false, Qw, show idx (r0 :: l) 0 = some r0 from rfl, Qw]
  exact (congrArg (fun o => Option.bind o _) key).trans rfl
theorem QKa (r0 : feed_run) (l : List feed_run) (hl : l.length < 1000000) : Qfx (r0 :: l) = some (l.foldl JO r0) := by
  have key : loop (Qfw (r0 :: l)) (1, J0 r0) = some (J0 (l.foldl JO r0)) :=
    Zm (fun k => ((k : Int) + 1, J0 ((l.take k).foldl JO r0))) l.length (fun k hk => by
      unfold Qfw Qcq J0
      have hi : idx (r0 :: l) ((k : Int) + 1) = some l[k] := by
        rw [show (k : Int) + 1 = ((k + 1 : Nat) : Int) by omega, Xs (show k + 1 < (r0 :: l).length by simpa using hk)]; rfl
      simp only [hi, Qw, Qhf, Qhy _ _ _ _ hk]
      rw [decide_eq_true (by simp; omega), cond_true, XK (x := (k : Int) + 1 + 1) (by omega)]
      generalize List.foldl JO r0 (List.take k l) = a
      unfold JO
      by_cases h1 : l[k].at_ < a.at_
      · have h2 : ¬ a.at_ < l[k].at_ := by omega
        simp [h1, h2]
      · by_cases h2 : a.at_ < l[k].at_ <;> simp [h1, h2]) (by
      unfold Qfw
      rw [List.take_length]
      unfold J0
      simp)
  unfold Qfx
  rw [decide_eq_false (show ¬ (((r0 :: l).length : Nat) : Int) < 1 by simp; omega), cond_false, Qw, show idx (r0 :: l) 0 = some r0 from rfl, Qw]
  exact (congrArg (fun o => Option.bind o _) key).trans rfl
theorem QKh (r0 : feed_run) (l : List feed_run) : (l.foldl mnF r0).at_ = l.foldl JL r0.at_ := by
  induction l generalizing r0 with
  | nil => rfl
  | cons r l ih => rw [List.foldl_cons, List.foldl_cons, ih]; congr 1; unfold mnF JL; split <;> rfl
theorem QKi (r0 : feed_run) (l : List feed_run) : (l.foldl JO r0).at_ + 12 = l.foldl JI (r0.at_ + 12) := by
  induction l generalizing r0 with
  | nil => rfl
  | cons r l ih => rw [List.foldl_cons, List.foldl_cons, ih]; congr 1; unfold JO JI; split <;> split <;> first | rfl | omega
section
variable {n : FeedNet} {rs : List feed_run} (hn : NetOk n) (hl : rs.length ≤ 8) (h : ∀ r ∈ rs, ZH n.Sections.length r)
include hn
theorem QJr {k : Nat} (hk : k < n.Stations.length) : w64 (1000000 * n.Stations[k].Limit) = 1000000 * JK n k := by
  have := hn.lim _ (List.getElem_mem hk)
  unfold JK
  rw [XK (by omega), List.getElem?_eq_getElem hk]; rfl
include hl h
theorem QEb {t : Int} (ht : 0 ≤ t) (ht2 : t ≤ 1012) {R : feed_run} (hR : t ≤ R.at_ + 12) (hR2 : R.at_ ≤ 100000) (hR3 : -100000 ≤ R.at_): Qcs rs ⟨n⟩ R t = some (match ovS n rs t with | some p => .inr (.inl (p, true)) | none => .inl (t + 1)) := by
  have hlen : ((Qam n (XH rs t)).length : Int) = (n.Stations.length : Int) := by unfold Qam; simp
  have hst := hn.st6
  have key : loop (Qcr ⟨n⟩ (Qam n (XH rs t)) t) 0 = some (fsO (ovS n rs t) (fun p => .inr (.inl (p, true))) ()) :=
    Qny (ρ := Int ⊕ ((FeedPeak × Bool) ⊕ Unit)) (step := Qcr ⟨n⟩ (Qam n (XH rs t)) t) (fun k => (k : Int)) n.Stations.length (ov1 n rs t) (fun p => .inr (.inl (p, true))) () (fun k hk => by
      have hi : idx (Qam n (XH rs t)) (k : Int) = some (ldR n rs t k) := by
        unfold Qam; rw [Xs?, List.getElem?_map, List.getElem?_range hk]; rfl
      unfold Qcr ov1
      rw [hlen, XN hk, cond_true, hi, Qw]
      simp only [Xs hk, Qw]
      rw [QJr hn hk, XP k (by omega)]
      by_cases hc : 1000000 * JK n k < ldR n rs t k
      · rw [decide_eq_true hc, if_pos hc]; rfl
      · rw [decide_eq_false hc, if_neg hc]; rfl) (by
      unfold Qcr
      rw [hlen, XO]; rfl)
  unfold Qcs
  rw [XK (x := R.at_ + 12) (by omega), decide_eq_true hR, cond_true, QDy hn hl h ht (by omega), Qw, key, Qw, XK (x := t + 1) (by omega)]
  cases ovS n rs t <;> rfl
theorem Qro : Qaz ⟨n⟩ rs = some (pkB (Zc n rs)) := by
  cases rs with
  | nil => simp [Qaz, Zc, JJ, Y0, pkB]
  | cons r0 l =>
    have hat : ∀ r ∈ r0 :: l, 0 ≤ r.at_ ∧ r.at_ ≤ 1000 := fun r hr => ⟨(h r hr).2.2.1, (h r hr).2.2.2⟩
    have h0 := hat r0 (List.mem_cons_self ..)
    have hlo : (l.foldl mnF r0).at_ = Y0 (r0 :: l) := by
      rw [QKh]; unfold Y0; rw [List.foldl_cons]; congr 1; unfold JL; split <;> omega
    have hhi : (l.foldl JO r0).at_ + 12 = JJ (r0 :: l) := by
      rw [QKi]; unfold JJ; rw [List.foldl_cons]; congr 1; unfold JI; split <;> omega
    have b1 := QJs hat
    have b2 := QJb hat
    have hlen : l.length < 1000000 := by rw [List.length_cons] at hl; omega
    have key := Qny (step := Qcs (r0 :: l) ⟨n⟩ (l.foldl JO r0)) (fun k => Y0 (r0 :: l) + (k : Int)) (JJ (r0 :: l) - Y0 (r0 :: l) + 1).toNat (fun (j : Nat) => ovS n (r0 :: l) (Y0 (r0 :: l) + j)) (fun p => (p, true)) () (fun k hk => by
      have hk2 : Y0 (r0 :: l) + (k : Int) ≤ JJ (r0 :: l) := by omega
      rw [QEb hn hl h (R := l.foldl JO r0) (by omega) (by omega) (by omega) (by omega) (by omega)]
      cases ovS n (r0 :: l) (Y0 (r0 :: l) + (k : Int)) with
      | some p => rfl
      | none => simp only; congr 2; omega) (by
      unfold Qcs
      rw [XK (x := (l.foldl JO r0).at_ + 12) (by omega), decide_eq_false (by omega)]; rfl)
    unfold Qaz
    rw [decide_eq_false (show ¬ ((((r0 :: l).length : Nat) : Int) = 0) by simp; omega), cond_false, QKf r0 l hlen, Qw, QKa r0 l hlen, Qw, hlo]
    simp only [Int.natCast_zero, Int.add_zero] at key
    rw [key, Qw]
    unfold Zc
    cases (List.range (JJ (r0 :: l) - Y0 (r0 :: l) + 1).toNat).findSome? (fun (j : Nat) => ovS n (r0 :: l) (Y0 (r0 :: l) + j)) <;> rfl
end
section
variable {n : FeedNet} {l : List FeedDeparture} (h : Rt n l)
include h
end
theorem Qkq {n : FeedNet} (h : NetS n) (l : List FeedDeparture) : Qen n l = some (if JF n l ≠ 0 then (FeedPeak.mk 0 0 0, JF n l) else ((pkB (Zc n (l.map (Xc n)))).1, bif (pkB (Zc n (l.map (Xc n)))).2 then 0 else 12)) := by
  unfold Qen
  rw [QMd h, Qw]
  by_cases hb : JF n l = 0
  · have hR := QNy h hb
    simp only [hb, ne_eq, not_true_eq_false, if_false, if_true, decide_true, Bool.not_true, cond_false]
    rw [show feed_net.mk (FeedNet.mk n.Stations n.Sections n.Trains) = feed_net.mk n from rfl, Qro hR.ne (by rw [List.length_map]; have := hR.l6; omega) (Qyc hR), Qw, ZU, Qw]
  · simp [hb]
end Go.Gw

end
section
set_option maxRecDepth 4096
namespace Go.Gw
open Go
/-! ### Lists, compared -/
def YA : List Int → List Int → Int
  | [], [] => 0
  | [], _ :: _ => -1
  | _ :: _, [] => 1
  | x :: xs, y :: ys => if x < y then -1 else if y < x then 1 else YA xs ys
theorem Qvo : ∀ a, YA a a = 0
  | [] => rfl
  | x :: xs => by simp [YA, Qvo xs]
theorem Qvn : ∀ {a b}, YA a b = 0 → a = b
  | [], [], _ => rfl
  | [], _ :: _, h => by simp [YA] at h
  | _ :: _, [], h => by simp [YA] at h
  | x :: xs, y :: ys, h => by
    unfold YA at h
    by_cases h1 : x < y
    · simp [h1] at h
    · by_cases h2 : y < x
      · simp [h1, h2] at h
      · simp only [h1, h2, if_false] at h
        rw [show x = y by omega, Qvn h]
theorem Qvm : ∀ a b, YA a b = -YA b a
  | [], [] => rfl
  | [], _ :: _ => rfl
  | _ :: _, [] => rfl
  | x :: xs, y :: ys => by
    unfold YA
    by_cases h1 : x < y
    · have h2 : ¬ y < x := by omega
      simp [h1, h2]
    · by_cases h2 : y < x
      · simp [h1, h2]
      · simp only [h1, h2, if_false]; exact Qvm xs ys
theorem Qvp : ∀ {a b c}, YA a b ≤ 0 → YA b c ≤ 0 → YA a c ≤ 0
  | [], _, [], _, _ => by simp [YA]
  | [], _, _ :: _, _, _ => by simp [YA]
  | _ :: _, [], _, h, _ => by simp [YA] at h
  | _ :: _, _ :: _, [], _, h => by simp [YA] at h
  | x :: xs, y :: ys, z :: zs, h1, h2 => by
    unfold YA at h1 h2 ⊢
    by_cases a1 : x < y
    · by_cases b1 : y < z
      · rw [if_pos (by omega)]; omega
      · by_cases b2 : z < y
        · simp [b1, b2] at h2
        · rw [if_pos (by omega)]; omega
    · by_cases a2 : y < x
      · simp [a1, a2] at h1
      · obtain rfl : x = y := by omega
        simp only [a1, if_false] at h1
        by_cases b1 : x < z
        · rw [if_pos b1]; omega
        · by_cases b2 : z < x
          · simp [b1, b2] at h2
          · simp only [b1, b2, if_false] at h2 ⊢
            exact Qvp h1 h2
theorem QCr (a b : Int) : Qcl [a, b] = some (if a = 0 then b else a) := by
  unfold Qcl
  rw [Zv [a, b] (fun x => !decide (x = 0)) (fun _ x => x)]
  · by_cases h1 : a = 0
    · by_cases h2 : b = 0 <;> simp [XR, h1, h2, jn0]
    · simp [XR, h1, jn0]
  · intro k hk
    unfold Qhe
    rw [XN hk, cond_true, Xs hk, Qw, XP k (by simp at hk; omega)]
  · unfold Qhe
    rw [XO]; rfl
theorem QOn (a b : List Int) (ha : a.length < 1000000) : Qdm a b = some (YA a b) := by
  have key : ∀ j k, k + j = a.length → k ≤ b.length → (Option.bind (loop (Qce a b) (k : Int)) fun o => jn0 o fun (_ : Unit) => (bif decide ((a.length : Int) < (b.length : Int)) then some (-1) else some 0)) = some (YA (a.drop k) (b.drop k)) := by
    intro j
    induction j with
    | zero =>
      intro k hk hb
      obtain rfl : k = a.length := by omega
      have e : Qce a b (a.length : Int) = some (.inr (.inr ())) := by
        unfold Qce; rw [XO]; rfl
      rw [J2 e, Qw, List.drop_length]
      show (bif decide ((a.length : Int) < (b.length : Int)) then some (-1) else some 0) = _
      by_cases h : a.length < b.length
      · rw [decide_eq_true (by omega), List.drop_eq_getElem_cons h]; rfl
      · rw [decide_eq_false (by omega), List.drop_eq_nil_of_le (by omega)]; rfl
    | succ j ih =>
      intro k hk hb
      have hlt : k < a.length := by omega
      have e : Qce a b (k : Int) = (bif decide ((b.length : Int) ≤ (k : Int)) then some (.inr (.inl 1)) else Option.bind (idx b (k : Int)) fun el => (bif !decide ((if a[k] < el then (-1 : Int) else if el < a[k] then 1 else 0) = 0) then some (.inr (.inl (if a[k] < el then (-1 : Int) else if el < a[k] then 1 else 0))) else some (.inl ((k + 1 : Nat) : Int)))) := by
        unfold Qce
        rw [XN hlt, cond_true, Xs hlt, Qw, XP k (by omega)]
        simp only [Qhf, Qw]
      rw [List.drop_eq_getElem_cons hlt]
      by_cases hkb : k < b.length
      · rw [decide_eq_false (by omega), cond_false, Xs hkb, Qw] at e
        rw [List.drop_eq_getElem_cons hkb]
        by_cases h1 : a[k] < b[k]
        · simp only [h1, if_true] at e
          rw [J2 e]
          simp [YA, h1, jn0]
        · by_cases h2 : b[k] < a[k]
          · simp only [h1, h2, if_true, if_false] at e
            rw [J2 e]
            simp [YA, h1, h2, jn0]
          · simp only [h1, h2, if_false, decide_true, Bool.not_true, cond_false] at e
            rw [Qfh e, ih (k + 1) (by omega) (by omega)]
            simp [YA, h1, h2]
      · rw [decide_eq_true (by omega), cond_true] at e
        rw [J2 e, List.drop_eq_nil_of_le (show b.length ≤ k by omega)]
        rfl
  unfold Qdm
  have := key a.length 0 (by omega) (by omega)
  simpa using this
/-! ### Plans, compared -/
def pc (p o : feed_plan) : Int := if p.delay < o.delay then -1 else if o.delay < p.delay then 1 else YA p.at_ o.at_
def bet (p o : feed_plan) : Bool := p.found && (!o.found || decide (pc p o < 0))
theorem Qqp (p o : feed_plan) (hp : p.at_.length < 1000000) : Qal p o = some (bet p o) := by
  unfold Qal bet pc
  cases p.found with
  | false => rfl
  | true =>
    cases o.found with
    | false => rfl
    | true =>
      simp only [Bool.not_true, Bool.not_false, Bool.and_self, cond_true, Qhf, QOn _ _ hp, Qw, QCr]
      by_cases h1 : p.delay < o.delay
      · simp [h1]
      · by_cases h2 : o.delay < p.delay <;> simp [h1, h2]
theorem Qor (p : feed_plan) : pc p p = 0 := by simp [pc, Qvo]
theorem Qxi (p q : feed_plan) : pc p q = -pc q p := by
  unfold pc
  by_cases h1 : p.delay < q.delay
  · have h2 : ¬ q.delay < p.delay := by omega
    simp [h1, h2]
  · by_cases h2 : q.delay < p.delay
    · simp [h1, h2]
    · simp only [h1, h2, if_false]; exact Qvm _ _
theorem Qxj {p q r : feed_plan} (h1 : pc p q ≤ 0) (h2 : pc q r ≤ 0) : pc p r ≤ 0 := by
  unfold pc at *
  by_cases a1 : p.delay < q.delay
  · by_cases b1 : q.delay < r.delay
    · rw [if_pos (by omega)]; omega
    · by_cases b2 : r.delay < q.delay
      · simp [b1, b2] at h2
      · rw [if_pos (by omega)]; omega
  · by_cases a2 : q.delay < p.delay
    · simp [a1, a2] at h1
    · simp only [a1, a2, if_false] at h1
      by_cases b1 : q.delay < r.delay
      · rw [if_pos (by omega)]; omega
      · by_cases b2 : r.delay < q.delay
        · simp [b1, b2] at h2
        · simp only [b1, b2, if_false] at h2
          rw [if_neg (by omega), if_neg (by omega)]
          exact Qvp h1 h2
theorem QMu {p q : feed_plan} (hp : p.found = true) (hq : q.found = true) (h : pc p q = 0) : p = q := by
  unfold pc at h
  by_cases h1 : p.delay < q.delay
  · simp [h1] at h
  · by_cases h2 : q.delay < p.delay
    · simp [h1, h2] at h
    · simp only [h1, h2, if_false] at h
      have h3 := Qvn h
      have h4 : p.delay = q.delay := by omega
      cases p; cases q
      simp only at hp hq h3 h4
      subst hp hq h3 h4
      rfl
def Bst (l : List feed_plan) (B : feed_plan) : Prop := ((∀ p ∈ l, p.found = false) ∧ B.found = false) ∨ (B ∈ l ∧ B.found = true ∧ ∀ q ∈ l, q.found = true → pc B q ≤ 0)
theorem Bst.found_eq {l : List feed_plan} {B B' : feed_plan} (h : Bst l B) (h' : Bst l B') : B.found = B'.found := by
  rcases h with ⟨h1, h2⟩ | ⟨h1, h2, h3⟩
  · rcases h' with ⟨k1, k2⟩ | ⟨k1, k2, k3⟩
    · rw [h2, k2]
    · have := h1 _ k1; rw [k2] at this; cases this
  · rcases h' with ⟨k1, k2⟩ | ⟨k1, k2, k3⟩
    · have := k1 _ h1; rw [h2] at this; cases this
    · rw [h2, k2]
theorem Bst.eq {l : List feed_plan} {B B' : feed_plan} (h : Bst l B) (h' : Bst l B') (hf : B.found = true) : B = B' := by
  have hf' := (h.found_eq h').symm.trans hf
  rcases h with ⟨h1, h2⟩ | ⟨h1, h2, h3⟩
  · rw [h2] at hf; cases hf
  · rcases h' with ⟨k1, k2⟩ | ⟨k1, k2, k3⟩
    · rw [k2] at hf'; cases hf'
    · refine QMu hf hf' ?_
      have a := h3 _ k1 hf'
      have b := k3 _ h1 hf
      rw [Qxi] at b
      omega
theorem Bst.perm {l l' : List feed_plan} (hp : l'.Perm l) {B : feed_plan} (h : Bst l B) : Bst l' B := by
  rcases h with ⟨h1, h2⟩ | ⟨h1, h2, h3⟩
  · exact .inl ⟨fun p hm => h1 p (hp.subset hm), h2⟩
  · exact .inr ⟨hp.symm.subset h1, h2, fun q hq => h3 q (hp.subset hq)⟩
def Yo (b p : feed_plan) : feed_plan := bif bet p b then p else b
def YM : feed_plan := ⟨[], 0, false⟩
theorem Qhx : ∀ (l : List feed_plan), Bst l (l.foldl Yo YM) ∧ ((l.foldl Yo YM).found = false → l.foldl Yo YM = YM) := by
  have key : ∀ (l pre : List feed_plan) (B : feed_plan), Bst pre B → (B.found = false → B = YM) → Bst (pre ++ l) (l.foldl Yo B) ∧ ((l.foldl Yo B).found = false → l.foldl Yo B = YM) := by
    intro l
    induction l with
    | nil => intro pre B h hz; rw [List.append_nil]; exact ⟨h, hz⟩
    | cons p l ih =>
      intro pre B h hz
      rw [List.foldl_cons, show pre ++ p :: l = (pre ++ [p]) ++ l by simp]
      refine ih (pre ++ [p]) _ ?_ ?_
      · unfold Yo bet
        cases hp : p.found with
        | false =>
          simp only [Bool.false_and, cond_false]
          rcases h with ⟨h1, h2⟩ | ⟨h1, h2, h3⟩
          · refine .inl ⟨fun q hq => ?_, h2⟩
            rcases List.mem_append.1 hq with hq | hq
            · exact h1 q hq
            · rw [List.mem_singleton.1 hq]; exact hp
          · refine .inr ⟨List.mem_append_left _ h1, h2, fun q hq hf => ?_⟩
            rcases List.mem_append.1 hq with hq | hq
            · exact h3 q hq hf
            · rw [List.mem_singleton.1 hq, hp] at hf; cases hf
        | true =>
          rcases h with ⟨h1, h2⟩ | ⟨h1, h2, h3⟩
          · simp only [h2, Bool.not_false, Bool.true_or, Bool.and_self, cond_true]
            refine .inr ⟨by simp, hp, fun q hq hf => ?_⟩
            rcases List.mem_append.1 hq with hq | hq
            · rw [h1 q hq] at hf; cases hf
            · rw [List.mem_singleton.1 hq, Qor]; exact Int.le_refl _
          · simp only [h2, Bool.not_true, Bool.false_or, Bool.true_and]
            by_cases hc : pc p B < 0
            · simp only [hc, decide_true, cond_true]
              refine .inr ⟨by simp, hp, fun q hq hf => ?_⟩
              rcases List.mem_append.1 hq with hq | hq
              · exact Qxj (by omega) (h3 q hq hf)
              · rw [List.mem_singleton.1 hq, Qor]; exact Int.le_refl _
            · simp only [hc, decide_false, cond_false]
              refine .inr ⟨List.mem_append_left _ h1, h2, fun q hq hf => ?_⟩
              rcases List.mem_append.1 hq with hq | hq
              · exact h3 q hq hf
              · rw [List.mem_singleton.1 hq, Qxi]; omega
      · unfold Yo
        cases hb : bet p B with
        | true =>
          intro hf
          unfold bet at hb
          rw [cond_true] at hf
          rw [hf] at hb; cases hb
        | false => exact hz
  intro l
  have := key l [] YM (.inl ⟨fun p hp => (by cases hp), rfl⟩) (fun _ => rfl)
  simpa using this
theorem Bst.flat {α : Type} {ks : List α} {f : α → List feed_plan} {g : α → feed_plan} (hg : ∀ k ∈ ks, Bst (f k) (g k)) {B : feed_plan} (h : Bst (ks.map g) B) : Bst (ks.flatMap f) B := by
  rcases h with ⟨h1, h2⟩ | ⟨h1, h2, h3⟩
  · refine .inl ⟨fun p hp => ?_, h2⟩
    obtain ⟨k, hk, hp⟩ := List.mem_flatMap.1 hp
    rcases hg k hk with ⟨a, _⟩ | ⟨_, a, _⟩
    · exact a p hp
    · rw [h1 _ (List.mem_map.2 ⟨k, hk, rfl⟩)] at a; cases a
  · obtain ⟨k, hk, rfl⟩ := List.mem_map.1 h1
    rcases hg k hk with ⟨_, a⟩ | ⟨a1, a2, a3⟩
    · rw [a] at h2; cases h2
    · refine .inr ⟨List.mem_flatMap.2 ⟨k, hk, a1⟩, h2, fun q hq hf => ?_⟩
      obtain ⟨j, hj, hq⟩ := List.mem_flatMap.1 hq
      rcases hg j hj with ⟨b, _⟩ | ⟨b1, b2, b3⟩
      · rw [b q hq] at hf; cases hf
      · exact Qxj (h3 _ (List.mem_map.2 ⟨j, hj, rfl⟩) b2) (b3 q hq hf)
theorem Qux : ∀ (l : List feed_plan) (b : feed_plan), (∀ p ∈ l, p.at_.length < 1000000) → YZ l b = some (l.foldl Yo b)
  | [], b, _ => rfl
  | p :: l, b, h => by
    rw [YZ, Qqp _ _ (h p (List.mem_cons_self ..)), Qw, Qux l _ fun q hq => h q (List.mem_cons_of_mem _ hq)]
    rfl
theorem QMp {net : feed_net} {t : FeedTrain} (ht : 0 ≤ t.Earliest ∧ t.Earliest ≤ t.Latest ∧ t.Latest ≤ 1000000000) {res : Nat → feed_plan} (hr : ∀ k, k < (t.Latest - t.Earliest + 1).toNat → Qfl net t k = some (res k) ∧ (res k).at_.length < 1000000) :
    Qak net t = some (((List.range (t.Latest - t.Earliest + 1).toNat).map res).foldl Yo YM) := by
  have hl : ∀ m, m ≤ (t.Latest - t.Earliest + 1).toNat → Jv net t m = some ((List.range m).map res) := by
    intro m
    induction m with
    | zero => intro _; rfl
    | succ m ih =>
      intro hm
      rw [Jv, ih (by omega), Qw, (hr m (by omega)).1, Qw, List.range_succ, List.map_append]; rfl
  have hall : ∀ l : List feed_plan, l.Perm ((List.range (t.Latest - t.Earliest + 1).toNat).map res) → YZ l YM = some (((List.range (t.Latest - t.Earliest + 1).toNat).map res).foldl Yo YM) := by
    intro l hp
    rw [Qux l _ fun p hm => ?_]
    · congr 1
      have h1 := Qhx l
      have h2 := Qhx ((List.range (t.Latest - t.Earliest + 1).toNat).map res)
      have h3 := h2.1.perm hp
      cases hf : (l.foldl Yo YM).found with
      | true => exact h1.1.eq h3 hf
      | false => rw [h1.2 hf, h2.2 ((h1.1.found_eq h3).symm.trans hf)]
    · obtain ⟨k, hk, rfl⟩ := List.mem_map.1 (hp.subset hm)
      exact (hr k (List.mem_range.1 hk)).2
  unfold Qak
  rw [if_pos ht, hl _ (Nat.le_refl _), Qw]
  have he : ∃ r, ∀ l : List feed_plan, l.Perm ((List.range (t.Latest - t.Earliest + 1).toNat).map res) → YZ l ⟨[], 0, false⟩ = some r := ⟨_, hall⟩
  rw [dif_pos he]
  have h1 := he.choose_spec _ (List.Perm.refl _)
  have h2 := hall _ (List.Perm.refl _)
  exact h1.symm.trans h2
end Go.Gw

end
