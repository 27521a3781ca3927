/- Laws of the walk. Condition: each theorem says its own. -/
import Derived.Test.YtbplgfhjpeeieaaGwTwin
import Derived.Test.YtbplgfhjpeeieaaGwPlan
import Derived.IntWalk
set_option linter.unusedVariables false
set_option linter.unusedSimpArgs false
set_option linter.unusedSectionVars false
section
set_option maxRecDepth 1000000
namespace Go.Gw
open Go
end Go.Gw

end
section
set_option linter.unusedSectionVars false
namespace Go.Gw
open Go

theorem Yi {x : Int} (h : -9223372036854775808 ≤ x ∧ x ≤ 9223372036854775807) : w64 x = x := Go.IntWalk.i64_in x h

def Runs {α : Type} (e : Option α) (Q : α → Prop) : Prop := ∃ a, e = some a ∧ Q a

section
variable {α β σ μ : Type} {Q : α → Prop} {e e' : Option α}
theorem Runs.some {a : α} (h : Q a) : Runs (some a) Q := ⟨a, rfl, h⟩
theorem Runs.bind {e : Option β} {f : β → Option α} (h : Runs e fun b => Runs (f b) Q) : Runs (e.bind f) Q := by
  obtain ⟨b, rfl, a, ha, hq⟩ := h; exact ⟨a, ha, hq⟩
theorem Runs.mono {Q' : α → Prop} (h : Runs e Q) (hm : ∀ a, Q a → Q' a) : Runs e Q' := by obtain ⟨a, ha, hq⟩ := h; exact ⟨a, ha, hm _ hq⟩
theorem Runs.eq {a : α} (h : Runs e (· = a)) : e = .some a := by obtain ⟨b, hb, rfl⟩ := h; exact hb
theorem Runs.call {e : Option β} {f : β → Option α} {b : β} (h : e = .some b) (hq : Runs (f b) Q) : Runs (e.bind f) Q := by subst h; exact hq
theorem Runs.bif {b : Bool} (ht : b = true → Runs e Q) (hf : b = false → Runs e' Q) : Runs (bif b then e else e') Q := by
  cases b
  · exact hf rfl
  · exact ht rfl
theorem Runs.jl {b : α} {f : μ → Option α} (h : Q b) : Runs (jn0 (.inl b) f) Q := ⟨b, rfl, h⟩
theorem Runs.j {o : α ⊕ μ} {f : μ → Option α} (hl : ∀ b, o = .inl b → Q b) (hr : ∀ m, o = .inr m → Runs (f m) Q) : Runs (jn0 o f) Q := by
  cases o with
  | inl b => exact Runs.jl (hl b rfl)
  | inr m => exact hr m rfl

def Rnd (I : σ → Prop) (m : σ → Nat) (Q : β → Prop) (s : σ) : σ ⊕ β → Prop
  | .inl s' => I s' ∧ m s' < m s
  | .inr o => Q o
theorem Runs.loop {step : σ → Option (σ ⊕ β)} {s : σ} {Q : β → Prop} (I : σ → Prop) (m : σ → Nat) (h0 : I s) (h : ∀ s, I s → Runs (step s) (Rnd I m Q s)) : Runs (Gw.loop step s) Q := by
  generalize hk : m s = k
  induction k using Nat.strongRecOn generalizing s with
  | _ k ih =>
    obtain ⟨x, hx, hq⟩ := h s h0
    cases x with
    | inl s' =>
      rw [Qcc hx]
      exact ih (m s') (by have := hq.2; omega) hq.1 rfl
    | inr o => rw [Qas hx]; exact ⟨o, rfl, hq⟩
theorem Ju {step : σ → Option (σ ⊕ β)} {o : β} (S : Nat → σ) (n : Nat) (h : ∀ k, k < n → step (S k) = .some (.inl (S (k + 1)))) (he : step (S n) = .some (.inr o)) : Gw.loop step (S 0) = .some o := by
  have key : ∀ j k, j + k = n → Gw.loop step (S k) = .some o := by
    intro j
    induction j with
    | zero => intro k hk; obtain rfl : k = n := by omega
              exact Qas he
    | succ j ih => intro k hk; rw [Qcc (h k (by omega))]; exact ih (k + 1) (by omega)
  exact key n 0 (by omega)

theorem Runs.idx {xs : List β} {i : Int} {f : β → Option α} (h0 : 0 ≤ i) (h1 : i < xs.length) (h : ∀ x, xs[i.toNat]? = .some x → Runs (f x) Q) : Runs ((Gw.idx xs i).bind f) Q := by
  have hl : i.toNat < xs.length := by omega
  have e : Gw.idx xs i = .some xs[i.toNat] := by unfold Gw.idx; rw [if_pos h0, List.getElem?_eq_getElem hl]
  exact Runs.call e (h _ (List.getElem?_eq_getElem hl))
theorem XD {xs : List β} {k : Nat} (h : k < xs.length) : Gw.idx xs (k : Int) = .some xs[k] := by
  unfold Gw.idx; rw [if_pos (by omega), Int.toNat_natCast, List.getElem?_eq_getElem h]
theorem XD? {xs : List β} {k : Nat} : Gw.idx xs (k : Int) = xs[k]? := by
  unfold Gw.idx; rw [if_pos (by omega), Int.toNat_natCast]
theorem ZO {xs ys : List β} (h : xs.length + ys.length ≤ 1073741824) : app xs ys = .some (xs ++ ys) := by unfold app; rw [if_pos h]
end
end Go.Gw

end
section
set_option linter.unusedSectionVars false
namespace Go.Gw
section
variable {α β γ σ ρ : Type}
def XB (p : α → Bool) (res : Nat → α → ρ) : Nat → List α → ρ ⊕ Unit
  | _, [] => .inr ()
  | k, x :: xs => if p x then .inl (res k x) else XB p res (k + 1) xs
theorem ZS {step : Int → Option (Int ⊕ (ρ ⊕ Unit))} (xs : List α) (p : α → Bool) (res : Nat → α → ρ)
    (hs : ∀ k (hk : k < xs.length), step (k : Int) = (bif p xs[k] then some (.inr (.inl (res k xs[k]))) else some (.inl ((k + 1 : Nat) : Int))))
    (he : step (xs.length : Int) = some (.inr (.inr ()))) : loop step 0 = some (XB p res 0 xs) := by
  have key : ∀ j k, j + k = xs.length → loop step (k : Int) = some (XB p res k (xs.drop k)) := by
    intro j
    induction j with
    | zero =>
      intro k hk
      obtain rfl : k = xs.length := by omega
      rw [List.drop_length]
      exact Qas he
    | succ j ih =>
      intro k hk
      have hlt : k < xs.length := by omega
      rw [List.drop_eq_getElem_cons hlt]
      have := hs k hlt
      cases hp : p xs[k] with
      | true => rw [hp] at this; simp only [XB, hp, if_true]; exact Qas this
      | false => rw [hp] at this; simp only [XB, hp]; rw [Qcc this]; exact ih (k + 1) (by omega)
  have := key xs.length 0 (by omega)
  simpa using this

def fld (f : Nat → γ → α → γ) : Nat → γ → List α → γ
  | _, a, [] => a
  | k, a, x :: xs => fld f (k + 1) (f k a x) xs
def rng (f : Nat → γ → γ) (a : γ) : Nat → γ
  | 0 => a
  | n + 1 => f n (rng f a n)
theorem X5 (k : Nat) (h : k < 4611686018427387904) : w64 ((k : Int) + 1) = ((k + 1 : Nat) : Int) := by rw [Yi (by omega)]; omega
theorem X6 {k n : Nat} (h : k < n) : decide ((k : Int) < (n : Int)) = true := by simp; omega
theorem X7 (n : Nat) : decide ((n : Int) < (n : Int)) = false := by simp
end
end Go.Gw

end
section
set_option maxRecDepth 4096
namespace Go.Gw
open Go

def Zf : List Int → Int
  | [] => 0
  | x :: xs => if x = 0 then Zf xs else x
theorem JS (l : List Int) (hl : l.length < 1073741824) : Y4 l = some (Zf l) := by
  unfold Y4
  rw [ZS l (fun x => !decide (x = 0)) (fun _ x => x)]
  · have key : ∀ (l : List Int) k, (jn0 (XB (fun x => !decide (x = 0)) (fun _ x => x) k l) fun (_ : Unit) => some 0) = some (Zf l) := by
      intro l
      induction l with
      | nil => intro k; rfl
      | cons x xs ih =>
        intro k
        by_cases h : x = 0
        · simp [XB, Zf, h]; exact ih _
        · simp [XB, Zf, h, jn0]
    simpa using key l 0
  · intro k hk
    unfold Qfs
    rw [X6 hk, XD hk, X5 k (by omega)]; rfl
  · unfold Qfs
    rw [X7]; rfl
theorem ZY (b : Bool) (e : Int) : XT b e = some (bif b then 0 else e) := by cases b <;> rfl
theorem Qah (n lo hi : Int) : Zn n lo hi = some (decide (lo ≤ n) && decide (n ≤ hi)) := rfl
theorem Qbi (n lo hi : Int) : ZP n lo hi = some (decide (lo ≤ n) && decide (n ≤ hi)) := rfl
theorem QIk (n m : Int) (h : 0 ≤ m) (h2 : m ≤ 9223372036854775807) : Qbw n m = some (decide (-m ≤ n) && decide (n ≤ m)) := by
  unfold Qbw
  rw [Yi (by omega), Qah, Int.zero_sub]; rfl
theorem Qhh {α : Type} (p : α → Bool) : ∀ (l : List α) (k : Nat), (jn0 (β := Int) (XB p (fun k _ => (k : Int)) k l) fun (_ : Unit) => some (-1)) = some (match XB p (fun k _ => (k : Int)) k l with | .inl i => i | .inr _ => -1)
  | l, k => by cases XB p (fun k _ => (k : Int)) k l <;> rfl
theorem Qlk {α : Type} (p : α → Bool) : ∀ (l : List α) (k : Nat), decide (0 ≤ (match XB p (fun k _ => (k : Int)) k l with | .inl i => i | .inr _ => (-1 : Int))) = l.any p
  | [], k => by simp [XB]
  | x :: xs, k => by
    by_cases h : p x = true
    · simp [XB, h]
    · simp only [XB, h, List.any_cons]
      have := Qlk p xs (k + 1)
      simpa [h] using this
theorem Qay {α ρ : Type} {p : α → Bool} {res : Nat → α → ρ} : ∀ (l : List α) (k : Nat), (XB p res k l = .inr () ∧ l.any p = false) ∨ ∃ j x, XB p res k l = .inl (res j x) ∧ p x = true ∧ l.any p = true
  | [], k => .inl ⟨rfl, rfl⟩
  | x :: xs, k => by
    by_cases h : p x = true
    · exact .inr ⟨k, x, by simp [XB, h], h, by simp [h]⟩
    · rcases Qay xs (k + 1) (p := p) (res := res) with ⟨h1, h2⟩ | ⟨j, y, h1, h2, h3⟩
      · exact .inl ⟨by simp [XB, h, h1], by simp [h, h2]⟩
      · exact .inr ⟨j, y, by simp [XB, h, h1], h2, by simp [h3]⟩
/-! ### Ladders -/
end Go.Gw

end
section
set_option maxRecDepth 4096
namespace Go.Gw
open Go
def XL (f : Nat → Int) (n : Nat) : Option Nat := (List.range n).find? fun i => decide (f i ≠ 0)
theorem Zo (f : Nat → Int) (n : Nat) : (XL f n = none ∧ ∀ j, j < n → f j = 0) ∨ ∃ i, XL f n = some i ∧ i < n ∧ f i ≠ 0 ∧ ∀ j, j < i → f j = 0 := by
  cases h : XL f n with
  | none =>
    refine .inl ⟨rfl, fun j hj => ?_⟩
    have := List.find?_eq_none.1 h j (List.mem_range.2 hj)
    simpa using this
  | some i =>
    right
    obtain ⟨h1, h2, h3⟩ := List.find?_range_eq_some.1 h
    exact ⟨i, rfl, List.mem_range.1 h2, by simpa using h1, fun j hj => by have := h3 j hj; simpa using this⟩
theorem Jt {σ ρ μ : Type} {step : σ → Option (σ ⊕ (ρ ⊕ μ))} (S : Nat → σ) (n : Nat) (f : Nat → Int) (res : Nat → Int → ρ) (o : μ)
    (hs : ∀ k, k < n → (∀ j, j < k → f j = 0) → step (S k) = if f k = 0 then some (.inl (S (k + 1))) else some (.inr (.inl (res k (f k))))) (he : (∀ j, j < n → f j = 0) → step (S n) = some (.inr (.inr o))) :
    loop step (S 0) = some (match XL f n with | some i => .inl (res i (f i)) | none => .inr o) := by
  rcases Zo f n with ⟨h1, h2⟩ | ⟨i, h1, h2, h3, h4⟩
  · rw [h1]
    exact Ju S n (fun k hk => by rw [hs k hk fun j hj => h2 j (by omega), if_pos (h2 k hk)]) (he h2)
  · rw [h1]
    exact Ju S i (fun k hk => by rw [hs k (by omega) fun j hj => h4 j (by omega), if_pos (h4 k hk)]) (by rw [hs i h2 h4, if_neg h3])
/-! ### Names -/
def Qcv (q : Int × Nat) : Bool := (!(((decide (97 ≤ q.1)) && (decide (q.1 ≤ 122))) || ((decide (65 ≤ q.1)) && (decide (q.1 ≤ 90))))) && ((decide ((q.2 : Int) = 0)) || ((!decide (q.1 = 45)) && ((decide (q.1 < 48)) || (decide (57 < q.1)))))
def bi (s : ByteArray) : List Int := bl s
theorem Qfd (s : ByteArray) : (bi s).length = s.size := J6 s
theorem Qpv {s : ByteArray} {k : Nat} (h : k < (bi s).length) : idx (α := Int) (bl s) (k : Int) = some (bi s)[k] := XD (xs := bi s) h
def Qad (s : ByteArray) : Bool := decide (1 ≤ s.size) && (decide (s.size ≤ 12) && !((bi s).zipIdx.any Qcv))
theorem Qsv (s : ByteArray) : s = ByteArray.mk #[] ↔ s.size = 0 := by
  constructor
  · intro h; subst h; rfl
  · intro h
    cases s with
    | mk d =>
      congr 1
      exact Array.eq_empty_of_size_eq_zero h
theorem Qmd (s : ByteArray) : Qcw s = some (Qad s) := by
  unfold Qcw Qad
  have hlen : (bi s).zipIdx.length = s.size := by rw [List.length_zipIdx, Qfd]
  by_cases h : 1 ≤ s.size ∧ s.size ≤ 12
  · have : (decide ((s.size : Int) < 1) || decide (12 < (s.size : Int))) = false := by
      rw [decide_eq_false (by omega), decide_eq_false (by omega)]; rfl
    rw [this, cond_false, ZS (bi s).zipIdx Qcv (fun _ _ => false), QB]
    · rcases Qay (p := Qcv) (res := fun _ _ => false) (bi s).zipIdx 0 with ⟨k1, k2⟩ | ⟨j, x, k1, k2, k3⟩
      · rw [k1, k2]; simp [h, jn0]
      · rw [k1, k3]; simp [jn0]
    · intro k hk
      rw [hlen] at hk
      unfold Qih
      rw [X6 hk, cond_true, Qpv (show k < (bi s).length by rw [Qfd]; exact hk), QB, X5 k (by omega)]
      simp only [List.getElem_zipIdx, Nat.zero_add]
      rfl
    · rw [hlen]
      unfold Qih
      rw [X7]; rfl
  · have : (decide ((s.size : Int) < 1) || decide (12 < (s.size : Int))) = true := by
      by_cases h1 : s.size < 1
      · rw [decide_eq_true (by omega)]; rfl
      · rw [decide_eq_true (p := 12 < (s.size : Int)) (by omega)]; simp
    rw [this, cond_true]
    congr 1
    by_cases h1 : 1 ≤ s.size
    · rw [decide_eq_false (p := s.size ≤ 12) (by omega)]; simp
    · rw [decide_eq_false h1]; rfl
theorem Qxf (s : ByteArray) (hs : s.size ≤ 1000) : Qdj s = some (Qad s) := by
  unfold Qdj Qad
  have hlen : (bi s).zipIdx.length = s.size := by rw [List.length_zipIdx, Qfd]
  have ht : tob s = some (bl s) := by unfold tob; rw [if_pos (by omega)]
  rw [ht, QB, ZS (bi s).zipIdx Qcv (fun _ _ => false), QB]
  · rcases Qay (p := Qcv) (res := fun _ _ => false) (bi s).zipIdx 0 with ⟨k1, k2⟩ | ⟨j, x, k1, k2, k3⟩
    · rw [k1, k2]
      simp only [jn0, Bool.not_false, Bool.and_true, Option.some.injEq]
      by_cases h0 : s.size = 0
      · rw [decide_eq_true ((Qsv s).2 h0), decide_eq_false (show ¬ 1 ≤ s.size by omega)]; rfl
      · rw [decide_eq_false (fun e => h0 ((Qsv s).1 e)), decide_eq_true (show 1 ≤ s.size by omega)]
        simp only [Bool.not_false, Bool.true_and]
        by_cases h1 : s.size ≤ 12
        · rw [decide_eq_true h1, decide_eq_true (by omega)]
        · rw [decide_eq_false h1, decide_eq_false (by omega)]
    · rw [k1, k3]; simp [jn0]
  · intro k hk
    rw [hlen] at hk
    have hk2 : k < (bl s).length := by rw [J6]; exact hk
    unfold Qfu
    rw [X6 hk2, cond_true, Qpv (show k < (bi s).length by rw [Qfd]; exact hk), QB, X5 k (by omega)]
    simp only [List.getElem_zipIdx, Nat.zero_add]
    rfl
  · rw [hlen, show (s.size : Int) = ((bl s).length : Int) by rw [J6]]
    unfold Qfu
    rw [X7]; rfl
theorem Qwm (l : List ByteArray) (v : ByteArray) (hl : l.length < 1000000) : Qei l v = some (l.any fun x => decide (v = x)) := by
  unfold Qei Qhg
  rw [ZS l (fun x => decide (v = x)) (fun k _ => (k : Int)), QB, Qhh, QB, Qlk]
  · intro k hk
    unfold Qhf
    rw [X6 hk, XD hk, X5 k (by omega)]; rfl
  · unfold Qhf
    rw [X7]; rfl
def ZE (s : ByteArray) (others : List ByteArray) : Int := if Qad s = false then 4 else if (others.any fun x => decide (s = x)) = true then 5 else 0
theorem Qqq (s : ByteArray) (others : List ByteArray) (hs : s.size ≤ 1000) (hl : others.length < 1000000) : Qbn s others = some (ZE s others) := by
  unfold Qbn ZE
  rw [Qxf s hs, QB, ZY, QB, Qwm _ _ hl, QB, ZY, QB, JS _ (by simp), QB]
  cases Qad s <;> cases (others.any fun x => decide (s = x)) <;> simp [Zf]
end Go.Gw

end
section
set_option maxRecDepth 4096
namespace Go.Gw
open Go
theorem Qfe {α : Type} {c : Bool} {a b : α} : (bif c then some a else some b) = some (bif c then a else b) := by cases c <;> rfl
def Qss (l r il ir eq sh lo s0 s1 : Bool) : Int := bif (!(l || il)) || !(r || ir) then 6 else bif l && r then 23 else bif eq then 26 else bif !(sh && lo) then 2 else bif (l && !s0) || (r && !s1) then 3 else 0
def ZH (s : FeedSection) (n : Nat) : Int := Qss (decide (s.Left = -1)) (decide (s.Right = -1)) (decide (0 ≤ s.Left) && decide (s.Left ≤ (n : Int) - 1)) (decide (0 ≤ s.Right) && decide (s.Right ≤ (n : Int) - 1)) (decide (s.Left = s.Right))
  (decide (0 ≤ s.Share) && decide (s.Share ≤ 1000)) (decide (0 ≤ s.Loss) && decide (s.Loss ≤ 500)) (decide (s.Share = 0)) (decide (s.Share = 1000))
theorem Qxi (s : FeedSection) (n : Nat) (hn : n < 1000) : Qdr s (n : Int) = some (ZH s n) := by
  unfold Qdr Qdq ZH
  rw [Yi (by omega)]
  simp only [ZY, Qah, QB, Qfe]
  rw [JS _ (by simp), QB]
  congr 1
  generalize decide (s.Left = -1) = l
  generalize decide (s.Right = -1) = r
  generalize (decide (0 ≤ s.Left) && decide (s.Left ≤ (n : Int) - 1)) = il
  generalize (decide (0 ≤ s.Right) && decide (s.Right ≤ (n : Int) - 1)) = ir
  generalize decide (s.Left = s.Right) = eq
  generalize (decide (0 ≤ s.Share) && decide (s.Share ≤ 1000)) = sh
  generalize (decide (0 ≤ s.Loss) && decide (s.Loss ≤ 500)) = lo
  generalize decide (s.Share = 0) = s0
  generalize decide (s.Share = 1000) = s1
  revert l r il ir eq sh lo s0 s1
  decide +kernel
theorem QFp (m : FeedNet) (s : FeedSection) (hn : m.Stations.length < 1000) : Qgu m s = some (ZH s m.Stations.length) := by
  unfold Qgu Qgt ZH
  rw [Yi (by omega)]
  simp only [Qbi, QB, Qfe]
  congr 1
  generalize decide (s.Left = -1) = l
  generalize decide (s.Right = -1) = r
  generalize (decide (0 ≤ s.Left) && decide (s.Left ≤ (m.Stations.length : Int) - 1)) = il
  generalize (decide (0 ≤ s.Right) && decide (s.Right ≤ (m.Stations.length : Int) - 1)) = ir
  generalize decide (s.Left = s.Right) = eq
  generalize (decide (0 ≤ s.Share) && decide (s.Share ≤ 1000)) = sh
  generalize (decide (0 ≤ s.Loss) && decide (s.Loss ≤ 500)) = lo
  generalize decide (s.Share = 0) = s0
  generalize decide (s.Share = 1000) = s1
  revert l r il ir eq sh lo s0 s1
  decide +kernel
def ZJ (s : FeedStep) (n : Nat) : Int := bif !(decide (0 ≤ s.Section) && decide (s.Section ≤ (n : Int) - 1)) then 6 else bif !(decide (-20000 ≤ s.Power) && decide (s.Power ≤ 20000)) then 2 else 0
def Qhi (l : List FeedStep) (n : Nat) : Int := match XL (fun i => (l[i]?.map (ZJ · n)).getD 0) l.length with | some i => (l[i]?.map (ZJ · n)).getD 0 | none => 0
def Qui (e1 e2 : Bool) (o : Bool) (z : Bool) (m : Bool) (st : Int) : Int := bif !(e1 && e2) then 2 else bif !o then 9 else bif !z then 10 else bif !m then 8 else st
def Jf (t : FeedTrain) (n : Nat) : Int := Qui (decide (0 ≤ t.Earliest) && decide (t.Earliest ≤ 1000)) (decide (0 ≤ t.Latest) && decide (t.Latest ≤ 1000)) (decide (t.Earliest ≤ t.Latest)) (decide (0 < (t.Steps.length : Int))) (decide ((t.Steps.length : Int) ≤ 12)) (Qhi t.Steps n)
theorem Qkb (l : List FeedStep) (n k : Nat) (hk : k < l.length) : (l[k]?.map (ZJ · n)).getD 0 = ZJ l[k] n := by rw [List.getElem?_eq_getElem hk]; rfl
theorem Qxl (t : FeedTrain) (n : Nat) (hn : n < 1000) (ht : t.Steps.length < 1000) : Qdu t (n : Int) = some (Jf t n) := by
  have key : loop (Qdt (n : Int) t) 0 = some (match XL (fun i => (t.Steps[i]?.map (ZJ · n)).getD 0) t.Steps.length with | some i => .inl ((t.Steps[i]?.map (ZJ · n)).getD 0) | none => .inr ()) :=
    Jt (fun k => (k : Int)) t.Steps.length _ (fun _ e => e) () (fun k hk _ => by
      rw [Qkb _ _ _ hk]
      unfold Qdt ZJ
      rw [X6 hk, cond_true, XD hk, QB, X5 k (by omega), Yi (by omega)]
      simp only [ZY, Qah, QB]
      rw [QIk _ _ (by omega) (by omega)]
      simp only [ZY, QB]
      rw [JS _ (by simp), QB]
      generalize (decide (0 ≤ t.Steps[k].Section) && decide (t.Steps[k].Section ≤ (n : Int) - 1)) = a
      generalize (decide (-20000 ≤ t.Steps[k].Power) && decide (t.Steps[k].Power ≤ 20000)) = b
      cases a <;> cases b <;> rfl) (fun _ => by
      unfold Qdt
      rw [X7]; rfl)
  unfold Qdu Qao
  rw [key]
  unfold Jf Qhi
  simp only [ZY, Qah, QB, Qfe]
  rw [JS _ (by simp), QB]
  generalize (decide (0 ≤ t.Earliest) && decide (t.Earliest ≤ 1000)) = e1
  generalize (decide (0 ≤ t.Latest) && decide (t.Latest ≤ 1000)) = e2
  generalize decide (t.Earliest ≤ t.Latest) = o
  generalize decide (0 < (t.Steps.length : Int)) = z
  generalize decide ((t.Steps.length : Int) ≤ 12) = m
  cases XL (fun i => (t.Steps[i]?.map (ZJ · n)).getD 0) t.Steps.length with
  | none => cases e1 <;> cases e2 <;> cases o <;> cases z <;> cases m <;> rfl
  | some i => cases e1 <;> cases e2 <;> cases o <;> cases z <;> cases m <;> rfl
theorem QFt (m : FeedNet) (t : FeedTrain) (hn : m.Sections.length < 1000) (ht : t.Steps.length < 1000) : Qgw m t = some (Jf t m.Sections.length) := by
  have key : loop (Qgv m t) 0 = some (match XL (fun i => (t.Steps[i]?.map (ZJ · m.Sections.length)).getD 0) t.Steps.length with | some i => .inl ((t.Steps[i]?.map (ZJ · m.Sections.length)).getD 0) | none => .inr ()) :=
    Jt (fun k => (k : Int)) t.Steps.length _ (fun _ e => e) () (fun k hk _ => by
      rw [Qkb _ _ _ hk]
      unfold Qgv Qky ZJ
      rw [X6 hk, cond_true, XD hk, QB, X5 k (by omega), Yi (by omega)]
      simp only [Qbi, QB]
      generalize (decide (0 ≤ t.Steps[k].Section) && decide (t.Steps[k].Section ≤ (m.Sections.length : Int) - 1)) = a
      generalize (decide (-20000 ≤ t.Steps[k].Power) && decide (t.Steps[k].Power ≤ 20000)) = b
      cases a <;> cases b <;> rfl) (fun _ => by
      unfold Qgv
      rw [X7]; rfl)
  unfold Qgw
  rw [key]
  unfold Jf Qhi
  simp only [Qbi, QB, Qfe]
  rw [show decide (t.Latest < t.Earliest) = !decide (t.Earliest ≤ t.Latest) by rw [← decide_not]; congr 1; exact propext (by omega),
    show decide ((t.Steps.length : Int) = 0) = !decide (0 < (t.Steps.length : Int)) by rw [← decide_not]; congr 1; exact propext (by omega),
    show decide (12 < (t.Steps.length : Int)) = !decide ((t.Steps.length : Int) ≤ 12) by rw [← decide_not]; congr 1; exact propext (by omega)]
  generalize (decide (0 ≤ t.Earliest) && decide (t.Earliest ≤ 1000)) = e1
  generalize (decide (0 ≤ t.Latest) && decide (t.Latest ≤ 1000)) = e2
  generalize decide (t.Earliest ≤ t.Latest) = o
  generalize decide (0 < (t.Steps.length : Int)) = z
  generalize decide ((t.Steps.length : Int) ≤ 12) = q
  cases XL (fun i => (t.Steps[i]?.map (ZJ · m.Sections.length)).getD 0) t.Steps.length with
  | none => cases e1 <;> cases e2 <;> cases o <;> cases z <;> cases q <;> rfl
  | some i => cases e1 <;> cases e2 <;> cases o <;> cases z <;> cases q <;> rfl
end Go.Gw

end
section
set_option maxRecDepth 4096
namespace Go.Gw
open Go
def Jc (s : FeedStation) (others : List ByteArray) : Int := if ZE s.Name others ≠ 0 then ZE s.Name others else bif !(decide (0 ≤ s.Limit) && decide (s.Limit ≤ 100000)) then 2 else 0
def YI (n : FeedNet) (i : Nat) : Int := (n.Stations[i]?.map fun s => Jc s ((n.Stations.take i).map (·.Name))).getD 0
def YX (n : FeedNet) (i : Nat) : Int := (n.Sections[i]?.map fun s => ZH s n.Stations.length).getD 0
def JZ (t : FeedTrain) (others : List ByteArray) (n : Nat) : Int := if ZE t.Name others ≠ 0 then ZE t.Name others else Jf t n
def YQ (n : FeedNet) (i : Nat) : Int := (n.Trains[i]?.map fun t => JZ t ((n.Trains.take i).map (·.Name)) n.Sections.length).getD 0
def Yh (n : FeedNet) : FeedMark × Int :=
  if n.Stations.length = 0 ∨ n.Sections.length = 0 then (FeedMark.mk 0 0, 10) else if 6 < n.Stations.length ∨ 10 < n.Sections.length ∨ 6 < n.Trains.length then (FeedMark.mk 0 0, 8) else
  match XL (YI n) n.Stations.length with
  | some i => (FeedMark.mk 1 i, YI n i)
  | none => match XL (YX n) n.Sections.length with
    | some i => (FeedMark.mk 2 i, YX n i)
    | none => match XL (YQ n) n.Trains.length with
      | some i => (FeedMark.mk 3 i, YQ n i)
      | none => (FeedMark.mk 0 0, 0)
structure NetS (n : FeedNet) : Prop where
  st : n.Stations.length < 1000
  se : n.Sections.length < 1000
  tr : n.Trains.length < 1000
  sn : ∀ s ∈ n.Stations, s.Name.size ≤ 1000
  tn : ∀ t ∈ n.Trains, t.Name.size ≤ 1000 ∧ t.Steps.length < 1000
theorem Y5 {α : Type} (l : List α) (f : α → Int) (k : Nat) (hk : k < l.length) : (l[k]?.map f).getD 0 = f l[k] := by rw [List.getElem?_eq_getElem hk]; rfl
theorem Qlm {α β : Type} (l : List α) (f : α → β) (k : Nat) (hk : k < l.length) : (l.take k).map f ++ [f l[k]] = (l.take (k + 1)).map f := by
  rw [List.take_add_one, List.getElem?_eq_getElem hk, List.map_append]; rfl
theorem Qjz (a b : Int) : Zf [a, b] = if a ≠ 0 then a else b := by
  by_cases h : a = 0
  · by_cases h2 : b = 0 <;> simp [Zf, h, h2]
  · simp [Zf, h]
section
variable {n : FeedNet} (h : NetS n)
include h
theorem Qxk : loop (Qde n) (([] : List ByteArray), 0) = some (match XL (YI n) n.Stations.length with | some i => .inl (FeedMark.mk 1 i, YI n i) | none => .inr ()) :=
  Jt (fun k => ((n.Stations.take k).map (·.Name), (k : Int))) n.Stations.length (YI n) (fun i e => (FeedMark.mk 1 i, e)) () (fun k hk _ => by
    have hst := h.st
    have hs : YI n k = Jc n.Stations[k] ((n.Stations.take k).map (·.Name)) := Y5 _ _ _ hk
    rw [hs]
    unfold Qde Jc
    simp only [X6 hk, cond_true, XD hk, QB]
    rw [Qqq _ _ (h.sn _ (List.getElem_mem hk)) (by simp; omega), QB]
    simp only [Qah, ZY, QB]
    rw [JS _ (by simp), QB, Qjz]
    generalize (decide (0 ≤ n.Stations[k].Limit) && decide (n.Stations[k].Limit ≤ 100000)) = b
    by_cases h1 : ZE n.Stations[k].Name ((n.Stations.take k).map (·.Name)) = 0
    · simp only [h1, ne_eq, not_true_eq_false, if_false]
      cases b
      · rfl
      · simp only [cond_true, decide_true, Bool.not_true, cond_false, if_true]
        rw [ZO (by simp; omega), QB, Qlm n.Stations (·.Name) k hk, X5 k (by omega)]
    · simp only [ne_eq, h1, not_false_eq_true, if_true, decide_false, Bool.not_false, cond_true, if_false]) (fun _ => by
    unfold Qde
    simp only [X7]; rfl)
theorem Qxj : loop (Qdf n) 0 = some (match XL (YX n) n.Sections.length with | some i => .inl (FeedMark.mk 2 i, YX n i) | none => .inr ()) :=
  Jt (fun k => (k : Int)) n.Sections.length (YX n) (fun i e => (FeedMark.mk 2 i, e)) () (fun k hk _ => by
    have hse := h.se
    have hs : YX n k = ZH n.Sections[k] n.Stations.length := Y5 _ _ _ hk
    rw [hs]
    unfold Qdf
    rw [X6 hk, cond_true, XD hk, QB, Qxi _ _ h.st, QB, X5 k (by omega)]
    by_cases h1 : ZH n.Sections[k] n.Stations.length = 0
    · simp [h1]
    · simp [h1]) (fun _ => by
    unfold Qdf
    rw [X7]; rfl)
theorem Qxn : loop (Qdg n) (([] : List ByteArray), 0) = some (match XL (YQ n) n.Trains.length with | some i => .inl (FeedMark.mk 3 i, YQ n i) | none => .inr ()) :=
  Jt (fun k => ((n.Trains.take k).map (·.Name), (k : Int))) n.Trains.length (YQ n) (fun i e => (FeedMark.mk 3 i, e)) () (fun k hk _ => by
    have hst := h.tr
    have hs : YQ n k = JZ n.Trains[k] ((n.Trains.take k).map (·.Name)) n.Sections.length := Y5 _ _ _ hk
    rw [hs]
    unfold Qdg JZ
    simp only [X6 hk, cond_true, XD hk, QB]
    rw [Qqq _ _ (h.tn _ (List.getElem_mem hk)).1 (by simp; omega), QB, Qxl _ _ h.se (h.tn _ (List.getElem_mem hk)).2, QB]
    rw [JS _ (by simp), QB, Qjz]
    by_cases h1 : ZE n.Trains[k].Name ((n.Trains.take k).map (·.Name)) = 0
    · simp only [h1, ne_eq, not_true_eq_false, if_false]
      by_cases h2 : Jf n.Trains[k] n.Sections.length = 0
      · simp only [h2, decide_true, Bool.not_true, cond_false, if_true]
        rw [ZO (by simp; omega), QB, Qlm n.Trains (·.Name) k hk, X5 k (by omega)]
      · simp [h2]
    · simp only [ne_eq, h1, not_false_eq_true, if_true, decide_false, Bool.not_false, cond_true, if_false]) (fun _ => by
    unfold Qdg
    simp only [X7]; rfl)
theorem Qxb : Qdh n = some (Yh n) := by
  unfold Qdh Yh
  rw [Qxk h, Qxj h, Qxn h]
  simp only [ZY, QB]
  rw [JS _ (by simp), QB, Qjz]
  by_cases h1 : n.Stations.length = 0 ∨ n.Sections.length = 0
  · rw [if_pos h1]
    have : (decide (0 < (n.Stations.length : Int)) && decide (0 < (n.Sections.length : Int))) = false := by
      rw [Bool.eq_false_iff]; intro e; simp at e; omega
    rw [this]; rfl
  · rw [if_neg h1]
    have : (decide (0 < (n.Stations.length : Int)) && decide (0 < (n.Sections.length : Int))) = true := by
      simp; omega
    rw [this]
    by_cases h2 : 6 < n.Stations.length ∨ 10 < n.Sections.length ∨ 6 < n.Trains.length
    · rw [if_pos h2]
      have : ((decide ((n.Stations.length : Int) ≤ 6) && decide ((n.Sections.length : Int) ≤ 10)) && decide ((n.Trains.length : Int) ≤ 6)) = false := by
        rw [Bool.eq_false_iff]; intro e; simp at e; omega
      rw [this]; rfl
    · rw [if_neg h2]
      have : ((decide ((n.Stations.length : Int) ≤ 6) && decide ((n.Sections.length : Int) ≤ 10)) && decide ((n.Trains.length : Int) ≤ 6)) = true := by
        simp; omega
      rw [this]
      cases XL (YI n) n.Stations.length with
      | some i => rfl
      | none =>
        cases XL (YX n) n.Sections.length with
        | some i => rfl
        | none =>
          cases XL (YQ n) n.Trains.length with
          | some i => rfl
          | none => rfl
end
end Go.Gw

end
section
set_option maxRecDepth 4096
namespace Go.Gw
open Go
theorem Qtr {α : Type} {p : α → Bool} : ∀ (l : List α) (k m : Nat) (hk : k < l.length), p l[k] = true → ∃ j : Nat, XB p (fun k _ => (k : Int)) m l = .inl ((m + j : Nat) : Int) ∧ (j < k ↔ (l.take k).any p = true)
  | x :: xs, 0, m, _, hp => ⟨0, by simp at hp; simp [XB, hp], by simp⟩
  | x :: xs, k + 1, m, hk, hp => by
    by_cases hx : p x = true
    · exact ⟨0, by simp [XB, hx], by simp [hx]⟩
    · obtain ⟨j, h1, h2⟩ := Qtr xs k (m + 1) (by simpa using hk) (by simpa using hp)
      refine ⟨j + 1, by simp only [XB, hx]; rw [← show m + 1 + j = m + (j + 1) by omega]; simpa using h1, ?_⟩
      simp only [List.take_succ_cons, List.any_cons, hx]
      rw [← (show ((l : Bool) → (false || l) = l) from fun l => by cases l <;> rfl) ((xs.take k).any p)] at h2
      constructor
      · intro h; simpa using h2.1 (by omega)
      · intro h; have := h2.2 (by simpa using h); omega
theorem Qif {α : Type} (f : α → ByteArray) (l : List α) (s : ByteArray) : ((l.map f).any fun x => decide (s = x)) = l.any fun y => decide (f y = s) := by
  rw [List.any_map]
  congr 1
  funext y
  exact decide_eq_decide.2 eq_comm
def X4 (n : FeedNet) (s : ByteArray) : Int := match XB (fun t : FeedTrain => decide (t.Name = s)) (fun k _ => (k : Int)) 0 n.Trains with | .inl i => i | .inr _ => -1
theorem Qrz (n : FeedNet) (s : ByteArray) (h : n.Trains.length < 1000000) : Qee n s = some (X4 n s) := by
  unfold Qee X4
  rw [ZS n.Trains (fun t => decide (t.Name = s)) (fun k _ => (k : Int)), QB, Qhh]
  all_goals first
    | (intro k hk; unfold Qkx; rw [X6 hk, cond_true, XD hk, QB, X5 k (by omega)])
    | (unfold Qkx; rw [X7]; rfl)
    | rfl
section
variable {n : FeedNet} (h : NetS n)
include h
theorem QFs : loop (Qgn n) 0 = some (match XL (YI n) n.Stations.length with | some i => .inl (FeedMark.mk 1 i, YI n i) | none => .inr ()) :=
  Jt (fun k => (k : Int)) n.Stations.length (YI n) (fun i e => (FeedMark.mk 1 i, e)) () (fun k hk _ => by
    have hst := h.st
    have hs : YI n k = Jc n.Stations[k] ((n.Stations.take k).map (·.Name)) := Y5 _ _ _ hk
    have hlen : (n.Stations.take k).length = k := by simp; omega
    have inner : loop (Qgm n (k : Int)) 0 = some (XB (fun y : FeedStation => decide (y.Name = n.Stations[k].Name)) (fun _ _ => Sum.inr (α := Int) (Sum.inl (β := Unit) (FeedMark.mk 1 (k : Int), (5 : Int)))) 0 (n.Stations.take k)) :=
      ZS (n.Stations.take k) _ _ (fun j hj => by
        rw [hlen] at hj
        unfold Qgm
        rw [X6 hj, cond_true, XD (show j < n.Stations.length by omega), QB, XD hk, QB, X5 j (by omega)]
        simp only [List.getElem_take]) (by
        rw [hlen]
        unfold Qgm
        rw [X7]; rfl)
    rw [hs]
    unfold Qgn Jc ZE
    rw [X6 hk, cond_true, XD hk, QB, Qmd, QB, inner, Qif]
    cases hn : Qad n.Stations[k].Name
    · rfl
    · simp only [Bool.not_true, cond_false, QB]
      rcases Qay (p := fun y : FeedStation => decide (y.Name = n.Stations[k].Name)) (res := fun _ _ => Sum.inr (α := Int) (Sum.inl (β := Unit) (FeedMark.mk 1 (k : Int), (5 : Int)))) (n.Stations.take k) 0 with ⟨k1, k2⟩ | ⟨j, x, k1, k2, k3⟩
      · rw [k1, k2]
        simp only [jn0, QB, Qbi, X5 k (show k < 4611686018427387904 by omega)]
        generalize (decide (0 ≤ n.Stations[k].Limit) && decide (n.Stations[k].Limit ≤ 100000)) = b
        cases b <;> rfl
      · rw [k1, k3]; rfl) (fun _ => by
    unfold Qgn
    rw [X7]; rfl)
theorem QFq : loop (Qgo n) 0 = some (match XL (YX n) n.Sections.length with | some i => .inl (FeedMark.mk 2 i, YX n i) | none => .inr ()) :=
  Jt (fun k => (k : Int)) n.Sections.length (YX n) (fun i e => (FeedMark.mk 2 i, e)) () (fun k hk _ => by
    have hse := h.se
    have hs : YX n k = ZH n.Sections[k] n.Stations.length := Y5 _ _ _ hk
    rw [hs]
    unfold Qgo
    rw [X6 hk, cond_true, XD hk, QB, QFp _ _ h.st, QB, X5 k (by omega)]
    by_cases h1 : ZH n.Sections[k] n.Stations.length = 0
    · simp [h1]
    · simp [h1]) (fun _ => by
    unfold Qgo
    rw [X7]; rfl)
theorem QFu : loop (Qgp n) 0 = some (match XL (YQ n) n.Trains.length with | some i => .inl (FeedMark.mk 3 i, YQ n i) | none => .inr ()) :=
  Jt (fun k => (k : Int)) n.Trains.length (YQ n) (fun i e => (FeedMark.mk 3 i, e)) () (fun k hk _ => by
    have hst := h.tr
    have hs : YQ n k = JZ n.Trains[k] ((n.Trains.take k).map (·.Name)) n.Sections.length := Y5 _ _ _ hk
    obtain ⟨j, hj1, hj2⟩ := Qtr (p := fun t : FeedTrain => decide (t.Name = n.Trains[k].Name)) n.Trains k 0 hk (by simp)
    have ht : X4 n n.Trains[k].Name = (j : Int) := by unfold X4; rw [hj1]; simp
    rw [hs]
    unfold Qgp JZ ZE
    rw [X6 hk, cond_true, XD hk, QB, Qmd, QB, Qif]
    cases hn : Qad n.Trains[k].Name
    · rfl
    · simp only [Bool.not_true, cond_false, QB]
      rw [Qrz _ _ (by omega), ht, QB, QFt _ _ h.se (h.tn _ (List.getElem_mem hk)).2, QB, X5 k (by omega)]
      cases ha : (n.Trains.take k).any (fun t => decide (t.Name = n.Trains[k].Name)) with
      | true =>
        rw [decide_eq_true (show (j : Int) < k by have := hj2.2 ha; omega)]; rfl
      | false =>
        rw [decide_eq_false (show ¬ (j : Int) < k by intro e; have := hj2.1 (by omega); rw [ha] at this; cases this)]
        by_cases h2 : Jf n.Trains[k] n.Sections.length = 0
        · simp [h2]
        · simp [h2]) (fun _ => by
    unfold Qgp
    rw [X7]; rfl)
theorem QFo : Qgq n = some (Yh n) := by
  unfold Qgq Yh
  rw [QFs h, QFq h, QFu h]
  by_cases h1 : n.Stations.length = 0 ∨ n.Sections.length = 0
  · rw [if_pos h1]
    have : (decide ((n.Stations.length : Int) = 0) || decide ((n.Sections.length : Int) = 0)) = true := by
      simp only [Bool.or_eq_true, decide_eq_true_eq]; omega
    rw [this]; rfl
  · rw [if_neg h1]
    have : (decide ((n.Stations.length : Int) = 0) || decide ((n.Sections.length : Int) = 0)) = false := by
      rw [decide_eq_false (by omega), decide_eq_false (by omega)]; rfl
    rw [this, cond_false]
    by_cases h2 : 6 < n.Stations.length ∨ 10 < n.Sections.length ∨ 6 < n.Trains.length
    · rw [if_pos h2]
      have : ((decide (6 < (n.Stations.length : Int)) || decide (10 < (n.Sections.length : Int))) || decide (6 < (n.Trains.length : Int))) = true := by
        simp only [Bool.or_eq_true, decide_eq_true_eq]; omega
      rw [this]; rfl
    · rw [if_neg h2]
      have : ((decide (6 < (n.Stations.length : Int)) || decide (10 < (n.Sections.length : Int))) || decide (6 < (n.Trains.length : Int))) = false := by
        rw [decide_eq_false (by omega), decide_eq_false (by omega), decide_eq_false (by omega)]; rfl
      rw [this, cond_false]
      cases XL (YI n) n.Stations.length with
      | some i => rfl
      | none =>
        cases XL (YX n) n.Sections.length with
        | some i => rfl
        | none =>
          cases XL (YQ n) n.Trains.length with
          | some i => rfl
          | none => rfl
end
end Go.Gw

end
section
set_option maxRecDepth 4096
namespace Go.Gw
open Go
theorem Qir (l : List FeedDeparture) (h : l.length < 1000000) : Qav l = some l := by
  unfold Qav; rw [ZO (by simp; omega)]; rfl
theorem Qmt {n : FeedNet} (h : NetS n) : Qae n = some n := by
  have key : loop (Qgr n) (0, ([] : List FeedTrain)) = some n.Trains :=
    Ju (fun k => ((k : Int), n.Trains.take k)) n.Trains.length (fun k hk => by
      have hst := h.tr
      have hsteps := (h.tn _ (List.getElem_mem hk)).2
      unfold Qgr
      simp only [X6 hk, cond_true, XD hk, QB]
      rw [ZO (by simp; omega), QB, ZO (by simp; omega), QB, X5 k (by omega), List.nil_append]
      congr 3
      rw [List.take_add_one, List.getElem?_eq_getElem hk]; rfl) (by
      unfold Qgr
      simp only [X7, cond_false, List.take_length])
  unfold Qae
  have h1 := h.st
  have h2 := h.se
  rw [ZO (by simp; omega), ZO (by simp; omega), key]
  rfl
def Qdv (n : FeedNet) : Bool := !(decide (8 < n.Stations.length) || decide (12 < n.Sections.length) || decide (8 < n.Trains.length)) && !(n.Stations.any fun s => decide (20 < (s.Name.size : Int))) && !(n.Trains.any fun t => decide (20 < (t.Name.size : Int)) || decide (14 < (t.Steps.length : Int)))
theorem QBn (n : FeedNet) : Qgb n = some (Qdv n) := by
  unfold Qgb Qdv
  by_cases h : 8 < n.Stations.length ∨ 12 < n.Sections.length ∨ 8 < n.Trains.length
  · have e1 : ((decide (8 < (n.Stations.length : Int)) || decide (12 < (n.Sections.length : Int))) || decide (8 < (n.Trains.length : Int))) = true := by
      simp only [Bool.or_eq_true, decide_eq_true_eq]; omega
    have e2 : (decide (8 < n.Stations.length) || decide (12 < n.Sections.length) || decide (8 < n.Trains.length)) = true := by
      simp only [Bool.or_eq_true, decide_eq_true_eq]; omega
    rw [e1, e2]; rfl
  · have e1 : ((decide (8 < (n.Stations.length : Int)) || decide (12 < (n.Sections.length : Int))) || decide (8 < (n.Trains.length : Int))) = false := by
      rw [decide_eq_false (by omega), decide_eq_false (by omega), decide_eq_false (by omega)]; rfl
    have e2 : (decide (8 < n.Stations.length) || decide (12 < n.Sections.length) || decide (8 < n.Trains.length)) = false := by
      rw [decide_eq_false (by omega), decide_eq_false (by omega), decide_eq_false (by omega)]; rfl
    rw [e1, e2, cond_false, ZS n.Stations (fun s => decide (20 < (s.Name.size : Int))) (fun _ _ => false), QB, ZS n.Trains (fun t => decide (20 < (t.Name.size : Int)) || decide (14 < (t.Steps.length : Int))) (fun _ _ => false)]
    · rcases Qay (p := fun s : FeedStation => decide (20 < (s.Name.size : Int))) (res := fun _ _ => false) n.Stations 0 with ⟨k1, k2⟩ | ⟨j, x, k1, k2, k3⟩
      · rw [k1, k2]
        rcases Qay (p := fun t : FeedTrain => decide (20 < (t.Name.size : Int)) || decide (14 < (t.Steps.length : Int))) (res := fun _ _ => false) n.Trains 0 with ⟨k3, k4⟩ | ⟨j, x, k3, k4, k5⟩
        · rw [k3, k4]; rfl
        · rw [k3, k5]; rfl
      · rw [k1, k3]; rfl
    · intro k hk
      unfold Qkf
      rw [X6 hk, cond_true, XD hk, QB, X5 k (by omega)]
      cases h1 : decide (20 < (n.Trains[k].Name.size : Int)) <;> simp
    · unfold Qkf
      rw [X7]; rfl
    · intro k hk
      unfold Qke
      rw [X6 hk, cond_true, XD hk, QB, X5 k (by omega)]
    · unfold Qke
      rw [X7]; rfl
theorem QBm {n : FeedNet} (h : Qdv n = true) : NetS n := by
  unfold Qdv at h
  simp only [Bool.and_eq_true, Bool.not_eq_true', Bool.or_eq_false_iff, decide_eq_false_iff_not, List.any_eq_false] at h
  obtain ⟨⟨⟨⟨h1, h2⟩, h3⟩, h4⟩, h5⟩ := h
  refine ⟨by omega, by omega, by omega, fun s hs => ?_, fun t ht => ?_⟩
  · have := h4 s hs; simp at this; omega
  · have := h5 t ht; simp at this; omega
end Go.Gw

end
section
set_option maxRecDepth 4096
namespace Go.Gw
open Go
def Zd (n : FeedNet) (d : FeedDeparture) (others : List FeedDeparture) : Int := if X4 n d.Train < 0 then 6 else if (others.any fun o => decide (o.Train = d.Train)) = true then 26 else bif !(decide (0 ≤ d.At) && decide (d.At ≤ 1000)) then 2 else 0
def Yt (n : FeedNet) (l : List FeedDeparture) (i : Nat) : Int := (l[i]?.map fun d => Zd n d (l.take i)).getD 0
def Xs (n : FeedNet) (d : FeedDeparture) : feed_run := feed_run.mk (n.Trains[(X4 n d.Train).toNat]?.getD default) d.At
theorem Qls {n : FeedNet} {s : ByteArray} (h : 0 ≤ X4 n s) : ∃ t, n.Trains[(X4 n s).toNat]? = some t ∧ t.Name = s ∧ (X4 n s).toNat < n.Trains.length := by
  have key : ∀ (l : List FeedTrain) (m : Nat), (XB (fun t : FeedTrain => decide (t.Name = s)) (fun k _ => (k : Int)) m l = .inr ()) ∨ ∃ (j : Nat) (t : FeedTrain), XB (fun t : FeedTrain => decide (t.Name = s)) (fun k _ => (k : Int)) m l = .inl ((m + j : Nat) : Int) ∧ l[j]? = some t ∧ t.Name = s := by
    intro l
    induction l with
    | nil => intro m; exact .inl rfl
    | cons x xs ih =>
      intro m
      by_cases hx : x.Name = s
      · exact .inr ⟨0, x, by simp [XB, hx], rfl, hx⟩
      · rcases ih (m + 1) with h1 | ⟨j, t, h1, h2, h3⟩
        · exact .inl (by simp [XB, hx, h1])
        · exact .inr ⟨j + 1, t, by simp only [XB, hx, decide_false]; rw [← show m + 1 + j = m + (j + 1) by omega]; simpa using h1, h2, h3⟩
  rcases key n.Trains 0 with h1 | ⟨j, t, h1, h2, h3⟩
  · unfold X4 at h; rw [h1] at h; simp at h
  · have e : X4 n s = (j : Int) := by unfold X4; rw [h1]; simp
    rw [e]
    exact ⟨t, by simpa using h2, h3, by simpa using (List.getElem?_eq_some_iff.1 h2).1⟩
theorem Qxm (n : FeedNet) (s : ByteArray) (h : n.Trains.length < 1000000) : Qdn ⟨n⟩ s = some (X4 n s) := by
  unfold Qdn Qhc X4
  rw [ZS n.Trains (fun t => decide (t.Name = s)) (fun k _ => (k : Int)), QB, Qhh]
  · rfl
  · intro k hk
    unfold Qhb
    rw [X6 hk, cond_true, XD hk, QB, X5 k (by omega)]; rfl
  · unfold Qhb
    rw [X7]; rfl
theorem Qwb (l : List feed_run) (d : FeedDeparture) (hl : l.length < 1000000) : Qeh l d = some (l.any fun r => decide (r.FeedTrain.Name = d.Train)) := by
  unfold Qeh Qhe
  rw [ZS l (fun r => decide (r.FeedTrain.Name = d.Train)) (fun k _ => (k : Int)), QB, Qhh, QB, Qlk]
  · intro k hk
    unfold Qhd
    rw [X6 hk, cond_true, XD hk, QB, X5 k (by omega)]; rfl
  · unfold Qhd
    rw [X7]; rfl
theorem Qfn {n : FeedNet} {d : FeedDeparture} {o : List FeedDeparture} (h : Zd n d o = 0) : 0 ≤ X4 n d.Train := by
  unfold Zd at h
  split at h
  · cases h
  · omega
theorem QGq {n : FeedNet} (s : ByteArray) (l : List FeedDeparture) (h : ∀ d ∈ l, 0 ≤ X4 n d.Train) : ((l.map (Xs n)).any fun r => decide (r.FeedTrain.Name = s)) = l.any fun d => decide (d.Train = s) := by
  rw [List.any_map]
  induction l with
  | nil => rfl
  | cons d l ih =>
    simp only [List.any_cons]
    rw [ih fun x hx => h x (List.mem_cons_of_mem _ hx)]
    congr 1
    obtain ⟨t, h1, h2, _⟩ := Qls (h d (List.mem_cons_self ..))
    simp [Xs, h1, h2]
theorem QBq (a b c : Int) : Zf [a, b, c] = if a ≠ 0 then a else if b ≠ 0 then b else c := by
  by_cases h : a = 0 <;> by_cases h2 : b = 0 <;> by_cases h3 : c = 0 <;> simp [Zf, h, h2, h3]
theorem Qnd (n : FeedNet) (l : List FeedDeparture) (hn : n.Trains.length < 1000) : J9 ⟨n⟩ l = some (if 6 < l.length then ([], 0, 8) else match XL (Yt n l) l.length with | some i => ([], (i : Int), Yt n l i) | none => (l.map (Xs n), 0, 0)) := by
  unfold J9
  by_cases h6 : 6 < l.length
  · rw [decide_eq_true (show 6 < (l.length : Int) by omega), if_pos h6]; rfl
  · rw [decide_eq_false (show ¬ 6 < (l.length : Int) by omega), if_neg h6, cond_false]
    have key : loop (Qdm l ⟨n⟩) (([] : List feed_run), 0) = some (match XL (Yt n l) l.length with | some i => .inl ([], (i : Int), Yt n l i) | none => .inr (l.map (Xs n))) :=
      Jt (fun k => ((l.take k).map (Xs n), (k : Int))) l.length (Yt n l) (fun i e => (([] : List feed_run), (i : Int), e)) (l.map (Xs n)) (fun k hk hpre => by
        have hs : Yt n l k = Zd n l[k] (l.take k) := Y5 _ _ _ hk
        have hall : ∀ d ∈ l.take k, 0 ≤ X4 n d.Train := fun d hd => by
          obtain ⟨j, hj, rfl⟩ := List.mem_iff_getElem.1 hd
          have hjk : j < k := by rw [List.length_take] at hj; omega
          have := hpre j hjk
          rw [show Yt n l j = Zd n l[j] (l.take j) from Y5 _ _ _ (by omega)] at this
          rw [List.getElem_take]
          exact Qfn this
        rw [hs]
        unfold Qdm
        simp only [X6 hk, cond_true, XD hk, QB]
        rw [Qxm n _ (by omega), QB, Qwb _ _ (by simp; omega), QB, QGq _ _ hall]
        unfold Qao
        simp only [ZY, Qah, QB]
        rw [JS _ (by simp), QB, QBq]
        unfold Zd
        generalize (decide (0 ≤ l[k].At) && decide (l[k].At ≤ 1000)) = b
        generalize ((l.take k).any fun d => decide (d.Train = l[k].Train)) = tw
        by_cases ht : X4 n l[k].Train < 0
        · rw [decide_eq_false (show ¬ 0 ≤ X4 n l[k].Train by omega)]
          simp [ht]
        · rw [decide_eq_true (show 0 ≤ X4 n l[k].Train by omega), if_neg ht]
          cases tw
          · cases b
            · rfl
            · simp only [cond_true, Bool.not_false, Bool.not_true, cond_false, ne_eq, not_true_eq_false, if_false, decide_true]
              obtain ⟨t, h1, h2, h3⟩ := Qls (show 0 ≤ X4 n l[k].Train by omega)
              have hidx : idx n.Trains (X4 n l[k].Train) = some t := by unfold idx; rw [if_pos (by omega)]; exact h1
              rw [hidx, QB, ZO (by simp; omega), QB, X5 k (by omega)]
              have : feed_run.mk t l[k].At = Xs n l[k] := by unfold Xs; rw [h1]; rfl
              rw [this, Qlm l (Xs n) k hk]
              rfl
          · rfl) (fun _ => by
        unfold Qdm
        simp only [X7, cond_false, List.take_length])
    rw [key, QB]
    cases XL (Yt n l) l.length <;> rfl
theorem QFn (n : FeedNet) (l : List FeedDeparture) (hn : n.Trains.length < 1000) : Qgl n l = some (if 6 < l.length then (0, 8) else match XL (Yt n l) l.length with | some i => ((i : Int), Yt n l i) | none => (0, 0)) := by
  unfold Qgl
  by_cases h6 : 6 < l.length
  · rw [decide_eq_true (show 6 < (l.length : Int) by omega), if_pos h6]; rfl
  · rw [decide_eq_false (show ¬ 6 < (l.length : Int) by omega), if_neg h6, cond_false]
    have key : loop (Qgk l n) 0 = some (match XL (Yt n l) l.length with | some i => .inl ((i : Int), Yt n l i) | none => .inr ()) :=
      Jt (fun k => (k : Int)) l.length (Yt n l) (fun i e => ((i : Int), e)) () (fun k hk _ => by
        have hs : Yt n l k = Zd n l[k] (l.take k) := Y5 _ _ _ hk
        have hlen : (l.take k).length = k := by simp; omega
        have inner : loop (Qgj l (k : Int)) 0 = some (XB (fun y : FeedDeparture => decide (y.Train = l[k].Train)) (fun _ _ => Sum.inr (α := Int) (Sum.inl (β := Unit) ((k : Int), (26 : Int)))) 0 (l.take k)) :=
          ZS (l.take k) _ _ (fun j hj => by
            rw [hlen] at hj
            unfold Qgj
            rw [X6 hj, cond_true, XD (show j < l.length by omega), QB, XD hk, QB, X5 j (by omega)]
            simp only [List.getElem_take]) (by
            rw [hlen]
            unfold Qgj
            rw [X7]; rfl)
        rw [hs]
        unfold Qgk Zd
        rw [X6 hk, cond_true, XD hk, QB, Qrz _ _ (by omega), QB, inner]
        by_cases ht : X4 n l[k].Train < 0
        · rw [decide_eq_true ht, if_pos ht]; rfl
        · rw [decide_eq_false ht, if_neg ht, cond_false, QB]
          rcases Qay (p := fun y : FeedDeparture => decide (y.Train = l[k].Train)) (res := fun _ _ => Sum.inr (α := Int) (Sum.inl (β := Unit) ((k : Int), (26 : Int)))) (l.take k) 0 with ⟨k1, k2⟩ | ⟨j, x, k1, k2, k3⟩
          · rw [k1, k2]
            simp only [jn0, QB, Qbi, X5 k (show k < 4611686018427387904 by omega)]
            generalize (decide (0 ≤ l[k].At) && decide (l[k].At ≤ 1000)) = b
            cases b <;> rfl
          · rw [k1, k3]; rfl) (fun _ => by
        unfold Qgk
        rw [X7]; rfl)
    rw [key, QB]
    cases XL (Yt n l) l.length <;> rfl
end Go.Gw

end
section
set_option maxRecDepth 4096
namespace Go.Gw
open Go
/-! ### The greatest common divisor -/
/-! ### Sums -/
theorem Qtt {c : Int} (hc : 0 ≤ c) : ∀ {l : List Int}, (∀ x ∈ l, -c ≤ x ∧ x ≤ c) → -(c * l.length) ≤ l.sum ∧ l.sum ≤ c * l.length
  | [], _ => by simp
  | x :: l, h => by
    have h1 := h x (List.mem_cons_self ..)
    have h2 := Qtt hc (l := l) fun y hy => h y (List.mem_cons_of_mem _ hy)
    simp only [List.sum_cons, List.length_cons]
    have : c * ((l.length + 1 : Nat) : Int) = c * l.length + c := by rw [Int.natCast_add, Int.mul_add]; simp
    rw [this]
    omega
end Go.Gw

end
section
set_option maxRecDepth 4096
namespace Go.Gw
open Go
def Z1 (st : List FeedStep) (k : Int) (s : Nat) : Int := if 0 ≤ k ∧ k ≤ (st.length : Int) - 1 then (match st[k.toNat]? with | some x => if x.Section = (s : Int) then x.Power else 0 | none => 0) else 0
def XA (l : List feed_run) (t : Int) (s : Nat) : Int := (l.map fun r => Z1 r.FeedTrain.Steps (t - r.at_) s).sum
def ZL (m : Nat) (r : feed_run) : Prop := (∀ x ∈ r.FeedTrain.Steps, 0 ≤ x.Section ∧ x.Section ≤ (m : Int) - 1 ∧ -20000 ≤ x.Power ∧ x.Power ≤ 20000) ∧ r.FeedTrain.Steps.length ≤ 12 ∧ 0 ≤ r.at_ ∧ r.at_ ≤ 1000
theorem Qwo {m : Nat} {r : feed_run} (h : ZL m r) (k : Int) (s : Nat) : -20000 ≤ Z1 r.FeedTrain.Steps k s ∧ Z1 r.FeedTrain.Steps k s ≤ 20000 := by
  unfold Z1
  split
  · split
    · rename_i x hx
      have := h.1 x (List.mem_of_getElem? hx)
      split <;> omega
    · omega
  · omega
theorem Qrx {m : Nat} {l : List feed_run} (h : ∀ r ∈ l, ZL m r) (t : Int) (s : Nat) : -(20000 * (l.length : Int)) ≤ XA l t s ∧ XA l t s ≤ 20000 * (l.length : Int) := by
  have := Qtt (c := 20000) (by omega) (l := l.map fun r => Z1 r.FeedTrain.Steps (t - r.at_) s) fun x hx => by
    obtain ⟨r, hr, rfl⟩ := List.mem_map.1 hx
    exact Qwo (h r hr) _ _
  simpa [XA] using this
theorem Qku {l : List feed_run} {t : Int} {s k : Nat} (hk : k < l.length) : XA (l.take (k + 1)) t s = XA (l.take k) t s + Z1 l[k].FeedTrain.Steps (t - l[k].at_) s := by
  unfold XA
  rw [List.take_add_one, List.getElem?_eq_getElem hk, List.map_append, List.sum_append]
  simp
theorem QHa {m : Nat} {f g : Nat → Int} {s : Nat} (hs : s < m) (hv : ∀ i, i ≠ s → g i = f i) : ((List.range m).map f).set s (g s) = (List.range m).map g := by
  apply List.ext_getElem?
  intro i
  by_cases hi : i = s
  · subst hi
    rw [List.getElem?_set_self (by simpa using hs)]
    simp [hs]
  · rw [List.getElem?_set_ne (Ne.symm hi)]
    by_cases him : i < m
    · simp [him, hv i hi]
    · simp [him]
theorem Qqp (m : Nat) (h : m < 1000) : mk (m : Int) (0 : Int) = some ((List.range m).map fun _ => (0 : Int)) := by
  unfold mk
  rw [if_pos (by omega)]
  congr 1
  apply List.ext_getElem?
  intro i
  by_cases hi : i < m <;> simp [hi]
theorem QIn {m : Nat} {r : feed_run} (h : ZL m r) {t : Int} (ht : 0 ≤ t) (ht2 : t ≤ 100000) :
    ∃ o, Qbv r t = some o ∧ ((o.2 = false ∧ ∀ s, Z1 r.FeedTrain.Steps (t - r.at_) s = 0) ∨ (o.2 = true ∧ 0 ≤ o.1.Section ∧ o.1.Section ≤ (m : Int) - 1 ∧ -20000 ≤ o.1.Power ∧ o.1.Power ≤ 20000 ∧ ∀ s : Nat, Z1 r.FeedTrain.Steps (t - r.at_) s = if o.1.Section = (s : Int) then o.1.Power else 0)) := by
  obtain ⟨h1, h2, h3, h4⟩ := h
  unfold Qbv
  rw [Yi (by omega), Yi (by omega), Qah, QB]
  by_cases hin : 0 ≤ t - r.at_ ∧ t - r.at_ ≤ (r.FeedTrain.Steps.length : Int) - 1
  · have e : (decide (0 ≤ t - r.at_) && decide (t - r.at_ ≤ (r.FeedTrain.Steps.length : Int) - 1)) = true := by
      rw [decide_eq_true hin.1, decide_eq_true hin.2]; rfl
    have hk : (t - r.at_).toNat < r.FeedTrain.Steps.length := by omega
    have hidx : idx r.FeedTrain.Steps (t - r.at_) = some r.FeedTrain.Steps[(t - r.at_).toNat] := by
      unfold idx; rw [if_pos hin.1, List.getElem?_eq_getElem hk]
    rw [e]
    simp only [Bool.not_true, cond_false]
    rw [hidx, QB]
    have hb := h1 _ (List.getElem_mem hk)
    refine ⟨_, rfl, .inr ⟨rfl, hb.1, hb.2.1, hb.2.2.1, hb.2.2.2, fun s => ?_⟩⟩
    unfold Z1
    rw [if_pos hin, List.getElem?_eq_getElem hk]
  · have e : (decide (0 ≤ t - r.at_) && decide (t - r.at_ ≤ (r.FeedTrain.Steps.length : Int) - 1)) = false := by
      rw [Bool.eq_false_iff]; intro e; simp at e; exact hin (by omega)
    rw [e]
    exact ⟨_, rfl, .inl ⟨rfl, fun s => by unfold Z1; rw [if_neg hin]⟩⟩
theorem QFj {n : FeedNet} {l : List feed_run} (hn : n.Sections.length < 1000) (hl : l.length ≤ 8) (h : ∀ r ∈ l, ZL n.Sections.length r) {t : Int} (ht : 0 ≤ t) (ht2 : t ≤ 100000) :
    Qbt ⟨n⟩ l t = some ((List.range n.Sections.length).map (XA l t)) := by
  have key : loop (Qdl l t) ((List.range n.Sections.length).map (fun _ => (0 : Int)), 0) = some ((List.range n.Sections.length).map (XA l t)) :=
    Ju (fun k => ((List.range n.Sections.length).map (XA (l.take k) t), (k : Int))) l.length (fun k hk => by
      obtain ⟨o, ho, hc⟩ := QIn (h _ (List.getElem_mem hk)) ht ht2
      unfold Qdl
      simp only [X6 hk, cond_true, XD hk, QB, ho]
      rw [X5 k (by omega)]
      rcases hc with ⟨h1, h2⟩ | ⟨h1, h2, h3, h4, h5, h6⟩
      · rw [h1, cond_false]
        congr 3
        apply List.map_congr_left
        intro s _
        rw [Qku hk, h2 s]; simp
      · rw [h1, cond_true]
        have hs : o.1.Section.toNat < n.Sections.length := by omega
        have hsi : ((o.1.Section.toNat : Nat) : Int) = o.1.Section := by omega
        have hidx : idx ((List.range n.Sections.length).map (XA (l.take k) t)) o.1.Section = some (XA (l.take k) t o.1.Section.toNat) := by
          unfold idx; rw [if_pos h2]; simp [hs]
        have hb := Qrx (l := l.take k) (fun r hr => h r (List.mem_of_mem_take hr)) t o.1.Section.toNat
        have hlen : (l.take k).length ≤ 8 := by rw [List.length_take]; omega
        have hnew : w64 (XA (l.take k) t o.1.Section.toNat + o.1.Power) = XA (l.take (k + 1)) t o.1.Section.toNat := by
          rw [Qku hk, h6, if_pos (by omega)]; exact Yi (by omega)
        rw [hidx, QB, QB, hnew, QHa (f := XA (l.take k) t) (g := XA (l.take (k + 1)) t) hs (fun i hi => by rw [Qku hk, h6, if_neg (by omega)]; simp)]) (by
      unfold Qdl
      simp only [X7, cond_false, List.take_length])
  unfold Qbt
  rw [Qqp _ hn, QB, key]; rfl
end Go.Gw

end
section
set_option maxRecDepth 4096
namespace Go.Gw
open Go
structure NetOk (n : FeedNet) : Prop where
  st0 : 0 < n.Stations.length
  st6 : n.Stations.length ≤ 6
  se0 : 0 < n.Sections.length
  se10 : n.Sections.length ≤ 10
  tr6 : n.Trains.length ≤ 6
  lim : ∀ s ∈ n.Stations, 0 ≤ s.Limit ∧ s.Limit ≤ 100000
  sec : ∀ s ∈ n.Sections, ZH s n.Stations.length = 0
  tr : ∀ t ∈ n.Trains, Jf t n.Sections.length = 0
theorem Qjw {f : Nat → Int} {n : Nat} (h : (match XL f n with | some i => f i | none => 0) = 0) : ∀ j, j < n → f j = 0 := by
  rcases Zo f n with ⟨h1, h2⟩ | ⟨i, h1, h2, h3, h4⟩
  · exact h2
  · rw [h1] at h; exact absurd h h3
theorem Qdz {n : FeedNet} (h : (Yh n).2 = 0) : NetOk n := by
  unfold Yh at h
  split at h
  · cases h
  · rename_i h1
    split at h
    · cases h
    · rename_i h2
      rcases Zo (YI n) n.Stations.length with ⟨a1, a2⟩ | ⟨i, a1, a2, a3, _⟩
      · rw [a1] at h
        rcases Zo (YX n) n.Sections.length with ⟨b1, b2⟩ | ⟨i, b1, b2, b3, _⟩
        · rw [b1] at h
          rcases Zo (YQ n) n.Trains.length with ⟨c1, c2⟩ | ⟨i, c1, c2, c3, _⟩
          · refine ⟨by omega, by omega, by omega, by omega, by omega, fun s hs => ?_, fun s hs => ?_, fun t ht => ?_⟩
            · obtain ⟨k, hk, rfl⟩ := List.mem_iff_getElem.1 hs
              have := a2 k hk
              rw [show YI n k = Jc n.Stations[k] ((n.Stations.take k).map (·.Name)) from Y5 _ _ _ hk] at this
              unfold Jc at this
              split at this
              · rename_i hc; exact absurd this hc
              · cases hb : (decide (0 ≤ n.Stations[k].Limit) && decide (n.Stations[k].Limit ≤ 100000)) with
                | true => simpa using hb
                | false => rw [hb] at this; cases this
            · obtain ⟨k, hk, rfl⟩ := List.mem_iff_getElem.1 hs
              have := b2 k hk
              rwa [show YX n k = ZH n.Sections[k] n.Stations.length from Y5 _ _ _ hk] at this
            · obtain ⟨k, hk, rfl⟩ := List.mem_iff_getElem.1 ht
              have := c2 k hk
              rw [show YQ n k = JZ n.Trains[k] ((n.Trains.take k).map (·.Name)) n.Sections.length from Y5 _ _ _ hk] at this
              unfold JZ at this
              split at this
              · rename_i hc; exact absurd this hc
              · exact this
          · rw [c1] at h; exact absurd h c3
        · rw [b1] at h; exact absurd h b3
      · rw [a1] at h; exact absurd h a3
theorem Quh {t : FeedTrain} {m : Nat} (h : Jf t m = 0) : (0 ≤ t.Earliest ∧ t.Earliest ≤ 1000) ∧ (0 ≤ t.Latest ∧ t.Latest ≤ 1000) ∧ t.Earliest ≤ t.Latest ∧ 0 < t.Steps.length ∧ t.Steps.length ≤ 12 ∧ ∀ x ∈ t.Steps, 0 ≤ x.Section ∧ x.Section ≤ (m : Int) - 1 ∧ -20000 ≤ x.Power ∧ x.Power ≤ 20000 := by
  unfold Jf Qui at h
  cases h1 : (decide (0 ≤ t.Earliest) && decide (t.Earliest ≤ 1000)) with
  | false => rw [h1] at h; cases h
  | true =>
    cases h2 : (decide (0 ≤ t.Latest) && decide (t.Latest ≤ 1000)) with
    | false => rw [h1, h2] at h; cases h
    | true =>
      cases h3 : decide (t.Earliest ≤ t.Latest) with
      | false => rw [h1, h2, h3] at h; cases h
      | true =>
        cases h4 : decide (0 < (t.Steps.length : Int)) with
        | false => rw [h1, h2, h3, h4] at h; cases h
        | true =>
          cases h5 : decide ((t.Steps.length : Int) ≤ 12) with
          | false => rw [h1, h2, h3, h4, h5] at h; cases h
          | true =>
            rw [h1, h2, h3, h4, h5] at h
            simp only [Bool.and_self, Bool.not_true, cond_false] at h
            unfold Qhi at h
            have hz := Qjw h
            simp only [Bool.and_eq_true, decide_eq_true_eq] at h1 h2 h3 h4 h5
            refine ⟨h1, h2, h3, by omega, by omega, fun x hx => ?_⟩
            obtain ⟨k, hk, rfl⟩ := List.mem_iff_getElem.1 hx
            have := hz k hk
            rw [Qkb _ _ _ hk] at this
            unfold ZJ at this
            cases a : (decide (0 ≤ t.Steps[k].Section) && decide (t.Steps[k].Section ≤ (m : Int) - 1)) with
            | false => rw [a] at this; cases this
            | true =>
              cases b : (decide (-20000 ≤ t.Steps[k].Power) && decide (t.Steps[k].Power ≤ 20000)) with
              | false => rw [a, b] at this; cases this
              | true =>
                simp only [Bool.and_eq_true, decide_eq_true_eq] at a b
                exact ⟨a.1, a.2, b.1, b.2⟩
theorem QGk {n : FeedNet} (hn : NetOk n) {d : FeedDeparture} {o : List FeedDeparture} (h : Zd n d o = 0) : ZL n.Sections.length (Xs n d) := by
  have h0 := Qfn h
  obtain ⟨t, h1, h2, h3⟩ := Qls h0
  have ht := Quh (hn.tr t (List.mem_of_getElem? h1))
  unfold Zd at h
  rw [if_neg (by omega)] at h
  split at h
  · cases h
  · cases b : (decide (0 ≤ d.At) && decide (d.At ≤ 1000)) with
    | false => rw [b] at h; cases h
    | true =>
      simp only [Bool.and_eq_true, decide_eq_true_eq] at b
      unfold ZL Xs
      rw [h1]
      exact ⟨ht.2.2.2.2.2, ht.2.2.2.2.1, b.1, b.2⟩
end Go.Gw

end
section
set_option maxRecDepth 4096
namespace Go.Gw
open Go
structure LadOk (l : FeedLadder) : Prop where
  pos : 0 < l.Loads.length
  most : l.Loads.length ≤ 8
  len : l.Ohms.length = l.Loads.length + 1
  ohm : ∀ x ∈ l.Ohms, 1 ≤ x ∧ x ≤ 500
  load : ∀ x ∈ l.Loads, -20000 ≤ x ∧ x ≤ 20000
theorem Qgc {a b m n : Int} (ha : -m ≤ a ∧ a ≤ m) (hb : -n ≤ b ∧ b ≤ n) : -(m * n) ≤ a * b ∧ a * b ≤ m * n := by
  have h1 : a.natAbs ≤ m.natAbs := by omega
  have h2 : b.natAbs ≤ n.natAbs := by omega
  have h3 := Nat.mul_le_mul h1 h2
  rw [← Int.natAbs_mul, ← Int.natAbs_mul] at h3
  have h4 : 0 ≤ m * n := Int.mul_nonneg (by omega) (by omega)
  omega
section
variable {l : FeedLadder} (h : LadOk l)
include h
end
section
variable {l : FeedLadder} (h : LadOk l)
include h
end
end Go.Gw

end
section
set_option maxRecDepth 4096
namespace Go.Gw
open Go
def Yz (s : FeedSection) (p : Int) : Int := if p < 0 then p * (1000 - s.Loss) else p * (1000 + s.Loss)
def YE (s : FeedSection) (k : Int) : Int := if s.Left = k then s.Share else if s.Right = k then 1000 - s.Share else 0
def JH (s : FeedSection) : Prop := (0 ≤ s.Share ∧ s.Share ≤ 1000) ∧ 0 ≤ s.Loss ∧ s.Loss ≤ 500
theorem QGt {s : FeedSection} {n : Nat} (h : ZH s n = 0) : JH s := by
  unfold ZH Qss at h
  have key : ((decide (0 ≤ s.Share) && decide (s.Share ≤ 1000)) && (decide (0 ≤ s.Loss) && decide (s.Loss ≤ 500))) = true := by
    cases hb : ((decide (0 ≤ s.Share) && decide (s.Share ≤ 1000)) && (decide (0 ≤ s.Loss) && decide (s.Loss ≤ 500))) with
    | true => rfl
    | false =>
      rw [hb] at h
      revert h
      generalize ((!(decide (s.Left = -1) || (decide (0 ≤ s.Left) && decide (s.Left ≤ (n : Int) - 1)))) || !(decide (s.Right = -1) || (decide (0 ≤ s.Right) && decide (s.Right ≤ (n : Int) - 1)))) = a
      generalize (decide (s.Left = -1) && decide (s.Right = -1)) = b
      generalize decide (s.Left = s.Right) = c
      cases a <;> cases b <;> cases c <;> intro h <;> cases h
  simp only [Bool.and_eq_true, decide_eq_true_eq] at key
  exact ⟨key.1, key.2⟩
theorem Qis {s : FeedSection} (hs : JH s) {p : Int} (hp : -160000 ≤ p ∧ p ≤ 160000) : -240000000 ≤ Yz s p ∧ Yz s p ≤ 240000000 := by
  obtain ⟨_, h1, h2⟩ := hs
  unfold Yz
  split
  · have := Qgc (a := p) (b := 1000 - s.Loss) (m := 160000) (n := 1500) hp (by omega); omega
  · have := Qgc (a := p) (b := 1000 + s.Loss) (m := 160000) (n := 1500) hp (by omega); omega
theorem Qsu {s : FeedSection} (hs : JH s) (k : Int) : -1000 ≤ YE s k ∧ YE s k ≤ 1000 := by
  obtain ⟨h0, _⟩ := hs
  unfold YE
  split
  · omega
  · split <;> omega
theorem Qxc {s : FeedSection} (hs : JH s) {p : Int} (hp : -160000 ≤ p ∧ p ≤ 160000) : Qbl s p = some (Yz s p) := by
  have hb := Qis hs hp
  obtain ⟨_, h1, h2⟩ := hs
  unfold Qbl Yz at *
  by_cases h : p < 0
  · rw [if_pos h] at hb ⊢
    rw [decide_eq_true h, cond_true, Yi (x := 1000 - s.Loss) (by omega), Yi (by omega)]
  · rw [if_neg h] at hb ⊢
    rw [decide_eq_false h, cond_false, Yi (x := 1000 + s.Loss) (by omega), Yi (by omega)]
theorem QFr {s : FeedSection} (hs : JH s) (k : Int) : Qkz s k = some (YE s k) := by
  obtain ⟨h0, _⟩ := hs
  unfold Qkz YE
  by_cases h1 : s.Left = k
  · rw [decide_eq_true h1, if_pos h1]; rfl
  · rw [decide_eq_false h1, if_neg h1]
    by_cases h2 : s.Right = k
    · rw [decide_eq_true h2, if_pos h2]
      simp only [cond_false, cond_true]
      rw [Yi (by omega)]
    · rw [decide_eq_false h2, if_neg h2]; rfl
theorem Qxd {s : FeedSection} (hs : JH s) (k : Int) : Qbm s k = some (YE s k) := by
  rw [← QFr hs k]
  unfold Qbm Qkz
  rw [show decide (k = s.Left) = decide (s.Left = k) from decide_eq_decide.2 eq_comm, show decide (k = s.Right) = decide (s.Right = k) from decide_eq_decide.2 eq_comm]
end Go.Gw

end
section
set_option maxRecDepth 4096
namespace Go.Gw
open Go
def Zq (secs : List FeedSection) (f : Nat → Int) (k : Nat) : Nat → Int
  | 0 => 0
  | j + 1 => Zq secs f k j + (secs[j]?.map fun s => Yz s (f j) * YE s (k : Int)).getD 0
section
variable {secs : List FeedSection} {f : Nat → Int} (hs : ∀ s ∈ secs, JH s) (hf : ∀ j, -160000 ≤ f j ∧ f j ≤ 160000)
include hs hf
theorem QJn (k j : Nat) : -240000000000 ≤ (secs[j]?.map fun s => Yz s (f j) * YE s (k : Int)).getD 0 ∧ (secs[j]?.map fun s => Yz s (f j) * YE s (k : Int)).getD 0 ≤ 240000000000 := by
  by_cases hj : j < secs.length
  · rw [List.getElem?_eq_getElem hj]
    have h1 := hs _ (List.getElem_mem hj)
    have := Qgc (Qis h1 (hf j)) (Qsu h1 (k : Int))
    simp only [Option.map_some, Option.getD_some]
    omega
  · rw [List.getElem?_eq_none (Nat.le_of_not_lt hj)]; simp
theorem Qqe (k : Nat) : ∀ j : Nat, -(240000000000 * (j : Int)) ≤ Zq secs f k j ∧ Zq secs f k j ≤ 240000000000 * (j : Int)
  | 0 => by simp [Zq]
  | j + 1 => by
    have h1 := Qqe k j
    have h2 := QJn hs hf k j
    simp only [Zq]
    omega
end
theorem QBu {secs : List FeedSection} {f : Nat → Int} {k j : Nat} (hj : j < secs.length) : (secs[j]?.map fun s => Yz s (f j) * YE s (k : Int)).getD 0 = Yz secs[j] (f j) * YE secs[j] (k : Int) := by
  rw [List.getElem?_eq_getElem hj]; rfl
theorem QFv (m j : Nat) (hj : j < m) (f g : Nat → Int) : ((List.range m).map fun i => if i < j then g i else f i).set j (g j) = (List.range m).map fun i => if i < j + 1 then g i else f i := by
  apply List.ext_getElem?
  intro i
  by_cases hi : i = j
  · subst hi
    rw [List.getElem?_set_self (by simpa using hj)]
    simp [hj]
  · rw [List.getElem?_set_ne (Ne.symm hi)]
    by_cases him : i < m
    · simp only [List.getElem?_map, List.getElem?_range him, Option.map_some, Option.some.injEq]
      by_cases h1 : i < j
      · rw [if_pos h1, if_pos (by omega)]
      · rw [if_neg h1, if_neg (by omega)]
    · simp [him]
theorem QCe (m j : Nat) (hj : j < m) (f g : Nat → Int) : idx ((List.range m).map fun i => if i < j then g i else f i) (j : Int) = some (f j) := by
  rw [XD?]
  simp [hj]
theorem Qxe {s : FeedSection} (hs : JH s) {p : Int} (hp : -160000 ≤ p ∧ p ≤ 160000) {m : Nat} (hm : m < 1000) {f : Nat → Int} (hf : ∀ i, -1000000000000000 ≤ f i ∧ f i ≤ 1000000000000000) :
    loop (Qbo p s ((List.range m).map f)) ((List.range m).map f, 0) = some ((List.range m).map fun i => f i + Yz s p * YE s (i : Int)) := by
  have e0 : ((List.range m).map fun i => if i < 0 then f i + Yz s p * YE s (i : Int) else f i) = (List.range m).map f := by
    apply List.map_congr_left; intro i _; simp
  have eN : ((List.range m).map fun i => if i < m then f i + Yz s p * YE s (i : Int) else f i) = (List.range m).map fun i => f i + Yz s p * YE s (i : Int) := by
    apply List.map_congr_left; intro i hi; rw [if_pos (List.mem_range.1 hi)]
  have hlen : (((List.range m).map f).length : Int) = (m : Int) := by simp
  have key := Ju (step := Qbo p s ((List.range m).map f)) (o := (List.range m).map fun i => f i + Yz s p * YE s (i : Int)) (fun j => ((List.range m).map fun i => if i < j then f i + Yz s p * YE s (i : Int) else f i, (j : Int))) m (fun j hj => by
    have hb := Qgc (Qis hs hp) (Qsu hs (j : Int))
    have hfj := hf j
    unfold Qbo
    simp only [hlen, X6 hj, cond_true, QCe m j hj f (fun i => f i + Yz s p * YE s (i : Int)), QB]
    rw [Qxc hs hp, QB, Qxd hs, QB, Yi (x := Yz s p * YE s (j : Int)) (by omega), Yi (x := f j + Yz s p * YE s (j : Int)) (by omega), X5 j (by omega)]
    simp only [Int.toNat_natCast]
    rw [QFv m j hj f (fun i => f i + Yz s p * YE s (i : Int))]) (by
    unfold Qbo
    simp only [hlen, X7, cond_false, eN])
  simp only [e0] at key
  exact key
def JT (n : FeedNet) (f : Nat → Int) : List Int := (List.range n.Stations.length).map fun k => Zq n.Sections f k n.Sections.length
theorem Qxg {n : FeedNet} (hn : NetOk n) {l : List feed_run} (hl : l.length ≤ 8) (h : ∀ r ∈ l, ZL n.Sections.length r) {t : Int} (ht : 0 ≤ t) (ht2 : t ≤ 100000) : Qbp ⟨n⟩ l t = some (JT n (XA l t)) := by
  have h1 := hn.st6
  have h2 := hn.se10
  have hs : ∀ s ∈ n.Sections, JH s := fun s hx => QGt (hn.sec s hx)
  have hf : ∀ j, -160000 ≤ XA l t j ∧ XA l t j ≤ 160000 := fun j => by have := Qrx h t j; omega
  have hlen : (((List.range n.Sections.length).map (XA l t)).length : Int) = (n.Sections.length : Int) := by simp
  have key : loop (Qdk ⟨n⟩ ((List.range n.Sections.length).map (XA l t))) ((List.range n.Stations.length).map (fun _ => (0 : Int)), 0) = some (JT n (XA l t)) :=
    Ju (fun j => ((List.range n.Stations.length).map (fun k => Zq n.Sections (XA l t) k j), (j : Int))) n.Sections.length (fun j hj => by
      have hb : ∀ k, -1000000000000000 ≤ Zq n.Sections (XA l t) k j ∧ Zq n.Sections (XA l t) k j ≤ 1000000000000000 := fun k => by have := Qqe hs hf k j; omega
      have hidx : idx ((List.range n.Sections.length).map (XA l t)) (j : Int) = some (XA l t j) := by rw [XD?]; simp [hj]
      unfold Qdk
      simp only [hlen, X6 hj, cond_true, hidx, QB, XD hj]
      rw [Qxe (hs _ (List.getElem_mem hj)) (hf j) (by omega) hb, QB, X5 j (by omega)]
      congr 3
      apply List.map_congr_left
      intro k _
      simp only [Zq, QBu hj]) (by
      unfold Qdk JT
      simp only [hlen, X7, cond_false])
  unfold Qbp
  show (Option.bind (mk (n.Stations.length : Int) (0 : Int)) _) = _
  rw [Qqp _ (by omega), QB, QFj (by omega) hl h ht ht2, QB, key]
  rfl
end Go.Gw

end
section
set_option maxRecDepth 4096
namespace Go.Gw
open Go
end Go.Gw

end
section
set_option maxRecDepth 4096
namespace Go.Gw
open Go
theorem Qna {α : Type} [DecidableEq α] : ∀ (a b : List α) (hl : a.length = b.length) (k : Nat), (jn0 (XB (fun (x : α × α) => !decide (x.1 = x.2)) (fun _ _ => false) k (a.zip b)) fun (_ : Unit) => some true) = some (decide (a = b))
  | [], [], _, k => by simp [XB, jn0]
  | [], _ :: _, hl, _ => by simp at hl
  | _ :: _, [], hl, _ => by simp at hl
  | x :: a, y :: b, hl, k => by
    by_cases hxy : x = y
    · subst hxy
      have := Qna a b (by simpa using hl) (k + 1)
      simp only [List.zip_cons_cons, XB]
      simpa using this
    · simp [XB, hxy, jn0]
theorem Quw {α : Type} {a b : List α} (hl : a.length = b.length) : (a.zip b).length = a.length := by simp [hl]
end Go.Gw

end
section
set_option maxRecDepth 4096
namespace Go.Gw
open Go
def YV (n : FeedNet) (l : List FeedDeparture) : Int := if 6 < l.length then 8 else match XL (Yt n l) l.length with | some i => Yt n l i | none => 0
def Y3 (n : FeedNet) (l : List FeedDeparture) : Int := if (Yh n).2 ≠ 0 then (Yh n).2 else YV n l
theorem Qcn (a b : Prop) [Decidable a] [Decidable b] : (decide a && decide b) = decide (a ∧ b) := (Bool.decide_and a b).symm
theorem Qrl {n : FeedNet} (h : NetS n) (l : List FeedDeparture) : JQ n l = some (⟨n⟩, (if Y3 n l = 0 then l.map (Xs n) else []), Y3 n l) := by
  unfold JQ Qdo Y3
  rw [Qxb h, QB, QB]
  by_cases h0 : (Yh n).2 = 0
  · simp only [h0, ne_eq, not_true_eq_false, if_false, decide_true, Bool.not_true, cond_false]
    rw [show feed_net.mk (FeedNet.mk n.Stations n.Sections n.Trains) = feed_net.mk n from rfl, Qnd n l h.tr, QB]
    unfold YV
    by_cases h6 : 6 < l.length
    · simp [h6]
    · rw [if_neg h6, if_neg h6]
      rcases Zo (Yt n l) l.length with ⟨e, _⟩ | ⟨i, e, _, hi, _⟩
      · rw [e]; simp
      · rw [e]; simp [hi]
  · simp [h0]
theorem QFm {n : FeedNet} (h : NetS n) (l : List FeedDeparture) : Qgi n l = some (Y3 n l) := by
  unfold Qgi Qkv Y3 YV
  rw [QFo h, QB]
  by_cases h0 : (Yh n).2 = 0
  · simp only [h0, ne_eq, not_true_eq_false, if_false, decide_true, Bool.not_true, cond_false, QB]
    rw [QFn n l h.tr, QB]
    by_cases h6 : 6 < l.length
    · rw [if_pos h6, if_pos h6]
    · rw [if_neg h6, if_neg h6]
      cases XL (Yt n l) l.length <;> rfl
  · simp [h0]
theorem QBr (a b : Int) : Zf [a, b] = if a ≠ 0 then a else b := by
  unfold Zf Zf Zf; by_cases h : a = 0 <;> by_cases h2 : b = 0 <;> simp [h, h2]
theorem Qil {n : FeedNet} {l : List FeedDeparture} (h : Y3 n l = 0) : NetOk n ∧ l.length ≤ 6 ∧ ∀ d ∈ l, ZL n.Sections.length (Xs n d) ∧ 0 ≤ X4 n d.Train := by
  unfold Y3 at h
  by_cases h0 : (Yh n).2 = 0
  · have hn := Qdz h0
    simp only [h0, ne_eq, not_true_eq_false, if_false] at h
    unfold YV at h
    by_cases h6 : 6 < l.length
    · rw [if_pos h6] at h; omega
    · rw [if_neg h6] at h
      refine ⟨hn, by omega, fun d hd => ?_⟩
      obtain ⟨k, hk, rfl⟩ := List.getElem_of_mem hd
      have hz := Qjw h k hk
      unfold Yt at hz
      rw [List.getElem?_eq_getElem hk] at hz
      exact ⟨QGk hn hz, Qfn hz⟩
  · rw [if_pos h0] at h; exact absurd h h0
end Go.Gw

end
section
set_option maxRecDepth 4096
namespace Go.Gw
open Go
def onI (r : feed_run) (t : Int) : Bool := decide (0 ≤ t - r.at_) && decide (t - r.at_ ≤ (r.FeedTrain.Steps.length : Int) - 1)
theorem QCc {l : List feed_run} {t : Int} (h : l.any (fun r => onI r t) = false) : XA l t = fun _ => 0 := by
  funext s
  unfold XA
  induction l with
  | nil => rfl
  | cons r l ih =>
    rw [List.any_cons, Bool.or_eq_false_iff] at h
    rw [List.map_cons, List.sum_cons, ih h.2]
    have h1 := h.1
    unfold onI at h1
    rw [Qcn, decide_eq_false_iff_not] at h1
    unfold Z1
    rw [if_neg h1]; rfl
structure Rt (n : FeedNet) (l : List FeedDeparture) : Prop where
  ne : NetOk n
  tr : n.Trains.length < 1000
  l6 : l.length ≤ 6
  ru : ∀ d ∈ l, ZL n.Sections.length (Xs n d) ∧ 0 ≤ X4 n d.Train
theorem Qlc {n : FeedNet} (h : NetS n) {l : List FeedDeparture} (hb : Y3 n l = 0) : Rt n l := ⟨(Qil hb).1, h.tr, (Qil hb).2.1, (Qil hb).2.2⟩
section
variable {n : FeedNet} {l : List FeedDeparture} (h : Rt n l)
include h
theorem Qld : ∀ r ∈ l.map (Xs n), ZL n.Sections.length r := fun r hr => by obtain ⟨d, hd2, rfl⟩ := List.mem_map.1 hr; exact (h.ru d hd2).1
end
end Go.Gw

end
section
set_option maxRecDepth 4096
namespace Go.Gw
open Go
def fsO {α ρ μ : Type} (o : Option α) (res : α → ρ) (u : μ) : ρ ⊕ μ := match o with | some a => .inl (res a) | none => .inr u
theorem Qqm {α σ ρ μ : Type} {step : σ → Option (σ ⊕ (ρ ⊕ μ))} (S : Nat → σ) (n : Nat) (f : Nat → Option α) (res : α → ρ) (o : μ)
    (hs : ∀ k, k < n → step (S k) = some (match f k with | some a => .inr (.inl (res a)) | none => .inl (S (k + 1))))
    (he : step (S n) = some (.inr (.inr o))) : loop step (S 0) = some (fsO ((List.range n).findSome? f) res o) := by
  have key : ∀ j k, k + j = n → loop step (S k) = some (fsO ((List.range' k j).findSome? f) res o) := by
    intro j
    induction j with
    | zero => intro k hk; obtain rfl : k = n := by omega
              exact Qas he
    | succ j ih =>
      intro k hk
      have h1 := hs k (by omega)
      rw [List.range'_succ, List.findSome?_cons]
      cases hf : f k with
      | some a => rw [hf] at h1; exact Qas h1
      | none => rw [hf] at h1; rw [Qcc h1]; exact ih (k + 1) (by omega)
  rw [List.range_eq_range']
  exact key n 0 (by omega)
theorem Qpt {α β : Type} (f : β → α → β) (a : β) (l : List α) (k : Nat) (hk : k < l.length) : (l.take (k + 1)).foldl f a = f ((l.take k).foldl f a) l[k] := by
  rw [List.take_add_one, List.getElem?_eq_getElem hk, List.foldl_append]; rfl
def Z9 (a : Int) (r : feed_run) : Int := if r.at_ < a then r.at_ else a
def Z7 (a : Int) (r : feed_run) : Int := if a < r.at_ + 12 then r.at_ + 12 else a
def YM (rs : List feed_run) : Int := rs.foldl Z9 1012
def Z8 (rs : List feed_run) : Int := rs.foldl Z7 0
def Js (n : FeedNet) (k : Nat) : Int := (n.Stations[k]?.map (·.Limit)).getD 0
def Jr (n : FeedNet) (rs : List feed_run) (t : Int) (k : Nat) : Int := Zq n.Sections (XA rs t) k n.Sections.length
def ov1 (n : FeedNet) (rs : List feed_run) (t : Int) (k : Nat) : Option FeedPeak := if 1000000 * Js n k < Jr n rs t k then some (FeedPeak.mk t k (Jr n rs t k)) else none
def JU (n : FeedNet) (rs : List feed_run) (t : Int) : Option FeedPeak := (List.range n.Stations.length).findSome? (ov1 n rs t)
def YN (n : FeedNet) (rs : List feed_run) : Option FeedPeak := (List.range (Z8 rs - YM rs + 1).toNat).findSome? fun (j : Nat) => JU n rs (YM rs + j)
def JV (o : Option FeedPeak) : FeedPeak × Bool := match o with | some p => (p, true) | none => (FeedPeak.mk 0 0 0, false)
theorem QCn {rs : List feed_run} (h : ∀ r ∈ rs, 0 ≤ r.at_ ∧ r.at_ ≤ 1000) : 0 ≤ YM rs ∧ YM rs ≤ 1012 := by
  have key : ∀ (l : List feed_run) a, (∀ r ∈ l, 0 ≤ r.at_ ∧ r.at_ ≤ 1000) → 0 ≤ a ∧ a ≤ 1012 → 0 ≤ l.foldl Z9 a ∧ l.foldl Z9 a ≤ 1012 := by
    intro l
    induction l with
    | nil => intro a _ h; exact h
    | cons r l ih =>
      intro a hr ha
      have := hr r (List.mem_cons_self ..)
      exact ih _ (fun x hx => hr x (List.mem_cons_of_mem _ hx)) (by unfold Z9; split <;> omega)
  exact key rs 1012 h (by omega)
theorem QCa {rs : List feed_run} (h : ∀ r ∈ rs, 0 ≤ r.at_ ∧ r.at_ ≤ 1000) : 0 ≤ Z8 rs ∧ Z8 rs ≤ 1012 := by
  have key : ∀ (l : List feed_run) a, (∀ r ∈ l, 0 ≤ r.at_ ∧ r.at_ ≤ 1000) → 0 ≤ a ∧ a ≤ 1012 → 0 ≤ l.foldl Z7 a ∧ l.foldl Z7 a ≤ 1012 := by
    intro l
    induction l with
    | nil => intro a _ h; exact h
    | cons r l ih =>
      intro a hr ha
      have := hr r (List.mem_cons_self ..)
      exact ih _ (fun x hx => hr x (List.mem_cons_of_mem _ hx)) (by unfold Z7; split <;> omega)
  exact key rs 0 h (by omega)
theorem Qmr (x y : Int) : J7 x y = some (if x < y then -1 else if y < x then 1 else 0) := by
  unfold J7 Qda
  simp only [decide_true, Bool.not_true, QB, cond_false]
  by_cases h1 : x < y
  · simp [h1]
  · by_cases h2 : y < x <;> simp [h1, h2]
def mnF (a r : feed_run) : feed_run := if r.at_ < a.at_ then r else a
def Ja (a r : feed_run) : feed_run := if a.at_ < r.at_ then r else a
def Jq (r : feed_run) : ByteArray × Int × Int × List FeedStep × Int := (r.FeedTrain.Name, r.FeedTrain.Earliest, r.FeedTrain.Latest, r.FeedTrain.Steps, r.at_)
theorem QCy (r0 : feed_run) (l : List feed_run) (hl : l.length < 1000000) : Qem (r0 :: l) = some (l.foldl mnF r0) := by
  have key : loop (Qel (r0 :: l)) (1, Jq r0) = some (Jq (l.foldl mnF r0)) :=
    Ju (fun k => ((k : Int) + 1, Jq ((l.take k).foldl mnF r0))) l.length (fun k hk => by
      unfold Qel Qbq Jq
      have hi : idx (r0 :: l) ((k : Int) + 1) = some l[k] := by
        rw [show (k : Int) + 1 = ((k + 1 : Nat) : Int) by omega, XD (show k + 1 < (r0 :: l).length by simpa using hk)]; rfl
      simp only [hi, QB, Qmr, Qpt _ _ _ _ hk]
      rw [decide_eq_true (by simp; omega), cond_true, Yi (x := (k : Int) + 1 + 1) (by omega)]
      generalize List.foldl mnF r0 (List.take k l) = a
      unfold mnF
      by_cases h1 : l[k].at_ < a.at_
      · simp [h1]
      · by_cases h2 : a.at_ < l[k].at_ <;> simp [h1, h2]) (by
      unfold Qel
      rw [List.take_length]
      unfold Jq
      simp)
  unfold Qem
  rw [decide_eq_false (show ¬ (((r0 :: l).length : Nat) : Int) < 1 by simp; omega), cond_false, QB, show idx (r0 :: l) 0 = some r0 from rfl, QB]
  exact (congrArg (fun o => Option.bind o _) key).trans rfl
theorem QCt (r0 : feed_run) (l : List feed_run) (hl : l.length < 1000000) : Qek (r0 :: l) = some (l.foldl Ja r0) := by
  have key : loop (Qej (r0 :: l)) (1, Jq r0) = some (Jq (l.foldl Ja r0)) :=
    Ju (fun k => ((k : Int) + 1, Jq ((l.take k).foldl Ja r0))) l.length (fun k hk => by
      unfold Qej Qbq Jq
      have hi : idx (r0 :: l) ((k : Int) + 1) = some l[k] := by
        rw [show (k : Int) + 1 = ((k + 1 : Nat) : Int) by omega, XD (show k + 1 < (r0 :: l).length by simpa using hk)]; rfl
      simp only [hi, QB, Qmr, Qpt _ _ _ _ hk]
      rw [decide_eq_true (by simp; omega), cond_true, Yi (x := (k : Int) + 1 + 1) (by omega)]
      generalize List.foldl Ja r0 (List.take k l) = a
      unfold Ja
      by_cases h1 : l[k].at_ < a.at_
      · have h2 : ¬ a.at_ < l[k].at_ := by omega
        simp [h1, h2]
      · by_cases h2 : a.at_ < l[k].at_ <;> simp [h1, h2]) (by
      unfold Qej
      rw [List.take_length]
      unfold Jq
      simp)
  unfold Qek
  rw [decide_eq_false (show ¬ (((r0 :: l).length : Nat) : Int) < 1 by simp; omega), cond_false, QB, show idx (r0 :: l) 0 = some r0 from rfl, QB]
  exact (congrArg (fun o => Option.bind o _) key).trans rfl
theorem QDa (r0 : feed_run) (l : List feed_run) : (l.foldl mnF r0).at_ = l.foldl Z9 r0.at_ := by
  induction l generalizing r0 with
  | nil => rfl
  | cons r l ih => rw [List.foldl_cons, List.foldl_cons, ih]; congr 1; unfold mnF Z9; split <;> rfl
theorem QDb (r0 : feed_run) (l : List feed_run) : (l.foldl Ja r0).at_ + 12 = l.foldl Z7 (r0.at_ + 12) := by
  induction l generalizing r0 with
  | nil => rfl
  | cons r l ih => rw [List.foldl_cons, List.foldl_cons, ih]; congr 1; unfold Ja Z7; split <;> split <;> first | rfl | omega
section
variable {n : FeedNet} {rs : List feed_run} (hn : NetOk n) (hl : rs.length ≤ 8) (h : ∀ r ∈ rs, ZL n.Sections.length r)
include hn
theorem QCm {k : Nat} (hk : k < n.Stations.length) : w64 (1000000 * n.Stations[k].Limit) = 1000000 * Js n k := by
  have := hn.lim _ (List.getElem_mem hk)
  unfold Js
  rw [Yi (by omega), List.getElem?_eq_getElem hk]; rfl
include hl h
theorem Qxh {t : Int} (ht : 0 ≤ t) (ht2 : t ≤ 1012) {R : feed_run} (hR : t ≤ R.at_ + 12) (hR2 : R.at_ ≤ 100000) (hR3 : -100000 ≤ R.at_): Qbs rs ⟨n⟩ R t = some (match JU n rs t with | some p => .inr (.inl (p, true)) | none => .inl (t + 1)) := by
  have hlen : ((JT n (XA rs t)).length : Int) = (n.Stations.length : Int) := by unfold JT; simp
  have hst := hn.st6
  have key : loop (Qbr ⟨n⟩ (JT n (XA rs t)) t) 0 = some (fsO (JU n rs t) (fun p => .inr (.inl (p, true))) ()) :=
    Qqm (ρ := Int ⊕ ((FeedPeak × Bool) ⊕ Unit)) (step := Qbr ⟨n⟩ (JT n (XA rs t)) t) (fun k => (k : Int)) n.Stations.length (ov1 n rs t) (fun p => .inr (.inl (p, true))) () (fun k hk => by
      have hi : idx (JT n (XA rs t)) (k : Int) = some (Jr n rs t k) := by
        unfold JT; rw [XD?, List.getElem?_map, List.getElem?_range hk]; rfl
      unfold Qbr ov1
      rw [hlen, X6 hk, cond_true, hi, QB]
      simp only [XD hk, QB]
      rw [QCm hn hk, X5 k (by omega)]
      by_cases hc : 1000000 * Js n k < Jr n rs t k
      · rw [decide_eq_true hc, if_pos hc]; rfl
      · rw [decide_eq_false hc, if_neg hc]; rfl) (by
      unfold Qbr
      rw [hlen, X7]; rfl)
  unfold Qbs
  rw [Yi (x := R.at_ + 12) (by omega), decide_eq_true hR, cond_true, Qxg hn hl h ht (by omega), QB, key, QB, Yi (x := t + 1) (by omega)]
  cases JU n rs t <;> rfl
theorem Qnc : Jl ⟨n⟩ rs = some (JV (YN n rs)) := by
  cases rs with
  | nil => simp [Jl, YN, Z8, YM, JV]
  | cons r0 l =>
    have hat : ∀ r ∈ r0 :: l, 0 ≤ r.at_ ∧ r.at_ ≤ 1000 := fun r hr => ⟨(h r hr).2.2.1, (h r hr).2.2.2⟩
    have h0 := hat r0 (List.mem_cons_self ..)
    have hlo : (l.foldl mnF r0).at_ = YM (r0 :: l) := by
      rw [QDa]; unfold YM; rw [List.foldl_cons]; congr 1; unfold Z9; split <;> omega
    have hhi : (l.foldl Ja r0).at_ + 12 = Z8 (r0 :: l) := by
      rw [QDb]; unfold Z8; rw [List.foldl_cons]; congr 1; unfold Z7; split <;> omega
    have b1 := QCn hat
    have b2 := QCa hat
    have hlen : l.length < 1000000 := by rw [List.length_cons] at hl; omega
    have key := Qqm (step := Qbs (r0 :: l) ⟨n⟩ (l.foldl Ja r0)) (fun k => YM (r0 :: l) + (k : Int)) (Z8 (r0 :: l) - YM (r0 :: l) + 1).toNat (fun (j : Nat) => JU n (r0 :: l) (YM (r0 :: l) + j)) (fun p => (p, true)) () (fun k hk => by
      have hk2 : YM (r0 :: l) + (k : Int) ≤ Z8 (r0 :: l) := by omega
      rw [Qxh hn hl h (R := l.foldl Ja r0) (by omega) (by omega) (by omega) (by omega) (by omega)]
      cases JU n (r0 :: l) (YM (r0 :: l) + (k : Int)) with
      | some p => rfl
      | none => simp only; congr 2; omega) (by
      unfold Qbs
      rw [Yi (x := (l.foldl Ja r0).at_ + 12) (by omega), decide_eq_false (by omega)]; rfl)
    unfold Jl
    rw [decide_eq_false (show ¬ ((((r0 :: l).length : Nat) : Int) = 0) by simp; omega), cond_false, QCy r0 l hlen, QB, QCt r0 l hlen, QB, hlo]
    simp only [Int.natCast_zero, Int.add_zero] at key
    rw [key, QB]
    unfold YN
    cases (List.range (Z8 (r0 :: l) - YM (r0 :: l) + 1).toNat).findSome? (fun (j : Nat) => JU n (r0 :: l) (YM (r0 :: l) + j)) <;> rfl
end
section
variable {n : FeedNet} {l : List FeedDeparture} (h : Rt n l)
include h
end
theorem QGr (a b : List FeedDeparture) (ha : a.length < 1000000) : Qaw a b = some (decide (a = b)) := by
  unfold Qaw
  by_cases hl : a.length = b.length
  · rw [decide_eq_true (by omega), Bool.not_true, cond_false, ZS (a.zip b) (fun x => !decide (x.1 = x.2)) (fun _ _ => false), QB, Qna a b hl]
    · intro k hk
      rw [Quw hl] at hk
      unfold Qgs
      rw [X6 hk, cond_true, XD hk, QB, XD (show k < b.length by omega), QB, X5 k (by omega)]
      simp only [List.getElem_zip]
    · rw [Quw hl]
      unfold Qgs
      rw [X7]; rfl
  · rw [decide_eq_false (by omega)]
    simp only [Bool.not_false, cond_true]
    rw [decide_eq_false]
    intro e; exact hl (by rw [e])
theorem Qlw {n : FeedNet} (h : NetS n) (l : List FeedDeparture) : Qdi n l = some (if Y3 n l ≠ 0 then (FeedPeak.mk 0 0 0, Y3 n l) else ((JV (YN n (l.map (Xs n)))).1, bif (JV (YN n (l.map (Xs n)))).2 then 0 else 12)) := by
  unfold Qdi
  rw [Qrl h, QB]
  by_cases hb : Y3 n l = 0
  · have hR := Qlc h hb
    simp only [hb, ne_eq, not_true_eq_false, if_false, if_true, decide_true, Bool.not_true, cond_false]
    rw [show feed_net.mk (FeedNet.mk n.Stations n.Sections n.Trains) = feed_net.mk n from rfl, Qnc hR.ne (by rw [List.length_map]; have := hR.l6; omega) (Qld hR), QB, ZY, QB]
  · simp [hb]
end Go.Gw

end
section
set_option maxRecDepth 4096
namespace Go.Gw
open Go
/-! ### Lists, compared -/
def Y6 : List Int → List Int → Int
  | [], [] => 0
  | [], _ :: _ => -1
  | _ :: _, [] => 1
  | x :: xs, y :: ys => if x < y then -1 else if y < x then 1 else Y6 xs ys
theorem Qqk : ∀ {a b}, Y6 a b = 0 → a = b
  | [], [], _ => rfl
  | [], _ :: _, h => by simp [Y6] at h
  | _ :: _, [], h => by simp [Y6] at h
  | x :: xs, y :: ys, h => by
    unfold Y6 at h
    by_cases h1 : x < y
    · simp [h1] at h
    · by_cases h2 : y < x
      · simp [h1, h2] at h
      · simp only [h1, h2, if_false] at h
        rw [show x = y by omega, Qqk h]
theorem Qqj : ∀ a b, Y6 a b = -Y6 b a
  | [], [] => rfl
  | [], _ :: _ => rfl
  | _ :: _, [] => rfl
  | x :: xs, y :: ys => by
    unfold Y6
    by_cases h1 : x < y
    · have h2 : ¬ y < x := by omega
      simp [h1, h2]
    · by_cases h2 : y < x
      · simp [h1, h2]
      · simp only [h1, h2, if_false]; exact Qqj xs ys
theorem Qql : ∀ {a b c}, Y6 a b ≤ 0 → Y6 b c ≤ 0 → Y6 a c ≤ 0
  | [], _, [], _, _ => by simp [Y6]
  | [], _, _ :: _, _, _ => by simp [Y6]
  | _ :: _, [], _, h, _ => by simp [Y6] at h
  | _ :: _, _ :: _, [], _, h => by simp [Y6] at h
  | x :: xs, y :: ys, z :: zs, h1, h2 => by
    unfold Y6 at h1 h2 ⊢
    by_cases a1 : x < y
    · by_cases b1 : y < z
      · rw [if_pos (by omega)]; omega
      · by_cases b2 : z < y
        · simp [b1, b2] at h2
        · rw [if_pos (by omega)]; omega
    · by_cases a2 : y < x
      · simp [a1, a2] at h1
      · obtain rfl : x = y := by omega
        simp only [a1, if_false] at h1
        by_cases b1 : x < z
        · rw [if_pos b1]; omega
        · by_cases b2 : z < x
          · simp [b1, b2] at h2
          · simp only [b1, b2, if_false] at h2 ⊢
            exact Qql h1 h2
/-! ### Plans, compared -/
def pc (p o : feed_plan) : Int := if p.delay < o.delay then -1 else if o.delay < p.delay then 1 else Y6 p.at_ o.at_
theorem QFg (p q : feed_plan) : pc p q = -pc q p := by
  unfold pc
  by_cases h1 : p.delay < q.delay
  · have h2 : ¬ q.delay < p.delay := by omega
    simp [h1, h2]
  · by_cases h2 : q.delay < p.delay
    · simp [h1, h2]
    · simp only [h1, h2, if_false]; exact Qqj _ _
theorem QFi {p q r : feed_plan} (h1 : pc p q ≤ 0) (h2 : pc q r ≤ 0) : pc p r ≤ 0 := by
  unfold pc at *
  by_cases a1 : p.delay < q.delay
  · by_cases b1 : q.delay < r.delay
    · rw [if_pos (by omega)]; omega
    · by_cases b2 : r.delay < q.delay
      · simp [b1, b2] at h2
      · rw [if_pos (by omega)]; omega
  · by_cases a2 : q.delay < p.delay
    · simp [a1, a2] at h1
    · simp only [a1, a2, if_false] at h1
      by_cases b1 : q.delay < r.delay
      · rw [if_pos (by omega)]; omega
      · by_cases b2 : r.delay < q.delay
        · simp [b1, b2] at h2
        · simp only [b1, b2, if_false] at h2
          rw [if_neg (by omega), if_neg (by omega)]
          exact Qql h1 h2
theorem QFh {p q : feed_plan} (hp : p.found = true) (hq : q.found = true) (h : pc p q = 0) : p = q := by
  unfold pc at h
  by_cases h1 : p.delay < q.delay
  · simp [h1] at h
  · by_cases h2 : q.delay < p.delay
    · simp [h1, h2] at h
    · simp only [h1, h2, if_false] at h
      have h3 := Qqk h
      have h4 : p.delay = q.delay := by omega
      cases p; cases q
      simp only at hp hq h3 h4
      subst hp hq h3 h4
      rfl
def Bst (l : List feed_plan) (B : feed_plan) : Prop := ((∀ p ∈ l, p.found = false) ∧ B.found = false) ∨ (B ∈ l ∧ B.found = true ∧ ∀ q ∈ l, q.found = true → pc B q ≤ 0)
theorem Bst.found_eq {l : List feed_plan} {B B' : feed_plan} (h : Bst l B) (h' : Bst l B') : B.found = B'.found := by
  rcases h with ⟨h1, h2⟩ | ⟨h1, h2, h3⟩
  · rcases h' with ⟨k1, k2⟩ | ⟨k1, k2, k3⟩
    · rw [h2, k2]
    · have := h1 _ k1; rw [k2] at this; cases this
  · rcases h' with ⟨k1, k2⟩ | ⟨k1, k2, k3⟩
    · have := k1 _ h1; rw [h2] at this; cases this
    · rw [h2, k2]
theorem Bst.eq {l : List feed_plan} {B B' : feed_plan} (h : Bst l B) (h' : Bst l B') (hf : B.found = true) : B = B' := by
  have hf' := (h.found_eq h').symm.trans hf
  rcases h with ⟨h1, h2⟩ | ⟨h1, h2, h3⟩
  · rw [h2] at hf; cases hf
  · rcases h' with ⟨k1, k2⟩ | ⟨k1, k2, k3⟩
    · rw [k2] at hf'; cases hf'
    · refine QFh hf hf' ?_
      have a := h3 _ k1 hf'
      have b := k3 _ h1 hf
      rw [QFg] at b
      omega
theorem Bst.perm {l l' : List feed_plan} (hp : l'.Perm l) {B : feed_plan} (h : Bst l B) : Bst l' B := by
  rcases h with ⟨h1, h2⟩ | ⟨h1, h2, h3⟩
  · exact .inl ⟨fun p hm => h1 p (hp.subset hm), h2⟩
  · exact .inr ⟨hp.symm.subset h1, h2, fun q hq => h3 q (hp.subset hq)⟩
theorem Bst.flat {α : Type} {ks : List α} {f : α → List feed_plan} {g : α → feed_plan} (hg : ∀ k ∈ ks, Bst (f k) (g k)) {B : feed_plan} (h : Bst (ks.map g) B) : Bst (ks.flatMap f) B := by
  rcases h with ⟨h1, h2⟩ | ⟨h1, h2, h3⟩
  · refine .inl ⟨fun p hp => ?_, h2⟩
    obtain ⟨k, hk, hp⟩ := List.mem_flatMap.1 hp
    rcases hg k hk with ⟨a, _⟩ | ⟨_, a, _⟩
    · exact a p hp
    · rw [h1 _ (List.mem_map.2 ⟨k, hk, rfl⟩)] at a; cases a
  · obtain ⟨k, hk, rfl⟩ := List.mem_map.1 h1
    rcases hg k hk with ⟨_, a⟩ | ⟨a1, a2, a3⟩
    · rw [a] at h2; cases h2
    · refine .inr ⟨List.mem_flatMap.2 ⟨k, hk, a1⟩, h2, fun q hq hf => ?_⟩
      obtain ⟨j, hj, hq⟩ := List.mem_flatMap.1 hq
      rcases hg j hj with ⟨b, _⟩ | ⟨b1, b2, b3⟩
      · rw [b q hq] at hf; cases hf
      · exact QFi (h3 _ (List.mem_map.2 ⟨j, hj, rfl⟩) b2) (b3 q hq hf)
end Go.Gw

end
section
set_option maxRecDepth 4096
namespace Go.Gw
open Go
/-! ### Names are apart -/
theorem Qtq {α : Type} {p : α → Bool} : ∀ (l : List α) (k m : Nat) (hk : k < l.length), p l[k] = true → (l.take k).any p = false → XB p (fun k _ => (k : Int)) m l = .inl ((m + k : Nat) : Int)
  | x :: xs, 0, m, _, hp, _ => by simp at hp; simp [XB, hp]
  | x :: xs, k + 1, m, hk, hp, ha => by
    simp only [List.take_succ_cons, List.any_cons, Bool.or_eq_false_iff] at ha
    simp only [XB, ha.1]
    have := Qtq xs k (m + 1) (by simpa using hk) (by simpa using hp) ha.2
    rw [← show m + 1 + k = m + (k + 1) by omega]
    simpa using this
theorem Qrp {n : FeedNet} (h : (Yh n).2 = 0) {k : Nat} (hk : k < n.Trains.length) : X4 n n.Trains[k].Name = (k : Int) := by
  have h0 : YQ n k = 0 := by
    unfold Yh at h
    split at h
    · cases h
    · split at h
      · cases h
      · rcases Zo (YI n) n.Stations.length with ⟨a1, a2⟩ | ⟨i, a1, a2, a3, _⟩
        · rw [a1] at h
          rcases Zo (YX n) n.Sections.length with ⟨b1, b2⟩ | ⟨i, b1, b2, b3, _⟩
          · rw [b1] at h
            rcases Zo (YQ n) n.Trains.length with ⟨c1, c2⟩ | ⟨i, c1, c2, c3, _⟩
            · exact c2 k hk
            · rw [c1] at h; exact absurd h c3
          · rw [b1] at h; exact absurd h b3
        · rw [a1] at h; exact absurd h a3
  rw [show YQ n k = JZ n.Trains[k] ((n.Trains.take k).map (·.Name)) n.Sections.length from Y5 _ _ _ hk] at h0
  unfold JZ at h0
  split at h0
  · rename_i hc; exact absurd h0 hc
  · rename_i hc
    have hc : ZE n.Trains[k].Name ((n.Trains.take k).map (·.Name)) = 0 := by
      rcases Decidable.em (ZE n.Trains[k].Name ((n.Trains.take k).map (·.Name)) = 0) with h | h
      · exact h
      · exact absurd h hc
    unfold ZE at hc
    split at hc
    · cases hc
    · split at hc
      · cases hc
      · rename_i ha
        rw [Qif, Bool.not_eq_true] at ha
        unfold X4
        rw [Qtq n.Trains k 0 hk (by simp) ha]
        simp
structure Trs (n : FeedNet) (ts : List FeedTrain) : Prop where
  ne : NetOk n
  ru : ∀ t ∈ ts, ∀ a : Int, Xs n (FeedDeparture.mk t.Name a) = feed_run.mk t a
  ok : ∀ t ∈ ts, Jf t n.Sections.length = 0
theorem QJq {n : FeedNet} (h : (Yh n).2 = 0) : Trs n n.Trains := by
  refine ⟨Qdz h, fun t ht a => ?_, (Qdz h).tr⟩
  obtain ⟨k, hk, rfl⟩ := List.mem_iff_getElem.1 ht
  unfold Xs
  simp only [Qrp h hk, Int.toNat_natCast, List.getElem?_eq_getElem hk, Option.getD_some]
theorem Trs.tail {n : FeedNet} {t : FeedTrain} {ts : List FeedTrain} (h : Trs n (t :: ts)) : Trs n ts := ⟨h.ne, fun x hx => h.ru x (List.mem_cons_of_mem _ hx), fun x hx => h.ok x (List.mem_cons_of_mem _ hx)⟩
end Go.Gw

end
section
set_option maxRecDepth 4096
namespace Go.Gw
open Go
/-! ### Departures that fit -/
def Fits : List FeedTrain → List FeedDeparture → Prop
  | [], [] => True
  | t :: ts, d :: ds => (d.Train = t.Name ∧ t.Earliest ≤ d.At ∧ d.At ≤ t.Latest) ∧ Fits ts ds
  | _, _ => False
theorem Fits.len : ∀ {ts : List FeedTrain} {r : List FeedDeparture}, Fits ts r → r.length = ts.length
  | [], [], _ => rfl
  | _ :: _, _ :: _, h => by simp [Fits.len h.2]
theorem Fits.get : ∀ {ts : List FeedTrain} {r : List FeedDeparture}, Fits ts r → ∀ k (hk : k < r.length) (hk2 : k < ts.length), r[k].Train = ts[k].Name ∧ ts[k].Earliest ≤ r[k].At ∧ r[k].At ≤ ts[k].Latest
  | [], [], _, k, hk, _ => by simp at hk
  | _ :: _, _ :: _, h, 0, _, _ => h.1
  | _ :: _, _ :: _, h, k + 1, hk, hk2 => Fits.get h.2 k (by simpa using hk) (by simpa using hk2)
theorem Fits.eq : ∀ {ts : List FeedTrain} {r s : List FeedDeparture}, Fits ts r → Fits ts s → r.map (·.At) = s.map (·.At) → r = s
  | [], [], [], _, _, _ => rfl
  | _ :: _, ⟨a, b⟩ :: r, ⟨c, d⟩ :: s, h1, h2, h => by
    simp only [List.map_cons, List.cons.injEq] at h
    have e1 := h1.1.1
    have e2 := h2.1.1
    simp only at e1 e2
    rw [Fits.eq h1.2 h2.2 h.2, e1, e2, h.1]
theorem Fits.rt {n : FeedNet} (h : (Yh n).2 = 0) (hs : n.Trains.length < 1000) {p : List FeedDeparture} (hp : Fits n.Trains p) : Rt n p := by
  have hT := QJq h
  refine ⟨hT.ne, hs, by rw [hp.len]; exact hT.ne.tr6, fun d hd => ?_⟩
  obtain ⟨k, hk, rfl⟩ := List.mem_iff_getElem.1 hd
  have hk2 : k < n.Trains.length := by rw [← hp.len]; exact hk
  have hg := hp.get k hk hk2
  have ht := Quh (hT.ok _ (List.getElem_mem hk2))
  have e : Xs n p[k] = feed_run.mk n.Trains[k] p[k].At := by
    rw [← hT.ru _ (List.getElem_mem hk2), ← hg.1]
  refine ⟨?_, by rw [hg.1, Qrp h hk2]; omega⟩
  rw [e]
  exact ⟨ht.2.2.2.2.2, ht.2.2.2.2.1, by show 0 ≤ p[k].At; omega, by show p[k].At ≤ 1000; omega⟩
end Go.Gw

end
section
set_option maxRecDepth 4096
namespace Go.Gw
open Go
def inW (w : FeedWindow) (t : Int) : Prop := w.Ticks.Lo ≤ t ∧ t ≤ w.Ticks.Hi
instance (w : FeedWindow) (t : Int) : Decidable (inW w t) := inferInstanceAs (Decidable (_ ∧ _))
section
variable {n : FeedNet} (hn : NetOk n) (w : FeedWindow)
include hn
variable (hs : 0 ≤ w.Station ∧ w.Station ≤ (n.Stations.length : Int) - 1) (ht : 0 ≤ w.Ticks.Lo ∧ w.Ticks.Lo ≤ w.Ticks.Hi ∧ w.Ticks.Hi ≤ 100000)
include hs ht
end
end Go.Gw

end
section
set_option maxRecDepth 4096
namespace Go.Gw
open Go
section
variable {n : FeedNet} (hn : NetOk n)
include hn
end
end Go.Gw

end
section
set_option maxRecDepth 4096
namespace Go.Gw
open Go
theorem QCl (secs : List FeedSection) (f : Nat → Int) (k j : Nat) : Zq secs f k (j + 1) = Zq secs f k j + (secs[j]?.map fun s => Yz s (f j) * YE s (k : Int)).getD 0 := rfl
/-! ### Sums over ticks -/
theorem QCo : ∀ {rs : List feed_run} {r : feed_run}, r ∈ rs → YM rs ≤ r.at_ ∨ r.at_ > 1000 := by
  intro rs r hr
  have mono : ∀ (l : List feed_run) (a : Int), l.foldl Z9 a ≤ a := by
    intro l
    induction l with
    | nil => intro a; exact Int.le_refl _
    | cons x l ih => intro a; rw [List.foldl_cons]; refine Int.le_trans (ih _) ?_; unfold Z9; split <;> omega
  have key : ∀ (l : List feed_run) (a : Int), r ∈ l → l.foldl Z9 a ≤ r.at_ := by
    intro l
    induction l with
    | nil => intro a h; cases h
    | cons x l ih =>
      intro a h
      rw [List.foldl_cons]
      rcases List.mem_cons.1 h with h | h
      · subst h
        refine Int.le_trans (mono l _) ?_
        unfold Z9; split <;> omega
      · exact ih _ h
  exact .inl (key rs 1012 hr)
theorem QCb {rs : List feed_run} {r : feed_run} (hr : r ∈ rs) : r.at_ + 12 ≤ Z8 rs := by
  have mono : ∀ (l : List feed_run) (a : Int), a ≤ l.foldl Z7 a := by
    intro l
    induction l with
    | nil => intro a; exact Int.le_refl _
    | cons x l ih => intro a; rw [List.foldl_cons]; refine Int.le_trans ?_ (ih _); unfold Z7; split <;> omega
  have key : ∀ (l : List feed_run) (a : Int), r ∈ l → r.at_ + 12 ≤ l.foldl Z7 a := by
    intro l
    induction l with
    | nil => intro a h; cases h
    | cons x l ih =>
      intro a h
      rw [List.foldl_cons]
      rcases List.mem_cons.1 h with h | h
      · subst h
        refine Int.le_trans ?_ (mono l _)
        unfold Z7; split <;> omega
      · exact ih _ h
  exact key rs 0 hr
theorem Qqf (secs : List FeedSection) (k : Nat) : ∀ j, Zq secs (fun _ => 0) k j = 0
  | 0 => rfl
  | j + 1 => by
    rw [QCl, Qqf secs k j]
    cases secs[j]? with
    | none => rfl
    | some c => simp [Yz]
theorem QEo {n : FeedNet} (hn : NetOk n) {rs : List feed_run} (hr : ∀ r ∈ rs, ZL n.Sections.length r) (h : YN n rs = none) (t : Int) {k : Nat} (hk : k < n.Stations.length) : Jr n rs t k ≤ 1000000 * Js n k := by
  by_cases hin : YM rs ≤ t ∧ t ≤ Z8 rs
  · unfold YN at h
    rw [List.findSome?_eq_none_iff] at h
    have h1 := h (t - YM rs).toNat (List.mem_range.2 (by omega))
    rw [show YM rs + (((t - YM rs).toNat : Nat) : Int) = t by omega] at h1
    unfold JU at h1
    rw [List.findSome?_eq_none_iff] at h1
    have h2 := h1 k (List.mem_range.2 hk)
    unfold ov1 at h2
    split at h2
    · cases h2
    · omega
  · have hidle : rs.any (fun r => onI r t) = false := by
      rw [List.any_eq_false]
      intro r hm
      have h1 := hr r hm
      have h2 := QCb hm
      have h3 := QCo hm
      obtain ⟨_, g1, g2, g3⟩ := h1
      unfold onI
      rw [Qcn, decide_eq_true_eq]
      omega
    have hl := hn.lim _ (List.getElem_mem hk)
    unfold Jr Js
    rw [QCc hidle, Qqf, List.getElem?_eq_getElem hk]
    simp only [Option.map_some, Option.getD_some]
    omega
end Go.Gw

end
section
set_option maxRecDepth 4096
namespace Go.Gw
open Go
theorem Qfw {f : Nat → Int} {m : Nat} (h : ∀ k, k < m → f k = 0) : XL f m = none := by
  rcases Zo f m with ⟨h1, _⟩ | ⟨i, _, hi, hne, _⟩
  · exact h1
  · exact absurd (h i hi) hne
theorem QDf {n : FeedNet} (h : (Yh n).2 = 0) : (∀ k, k < n.Stations.length → YI n k = 0) ∧ (∀ k, k < n.Sections.length → YX n k = 0) ∧ (∀ k, k < n.Trains.length → YQ n k = 0) := by
  unfold Yh at h
  split at h
  · cases h
  · split at h
    · cases h
    · rcases Zo (YI n) n.Stations.length with ⟨a1, a2⟩ | ⟨i, a1, a2, a3, _⟩
      · rw [a1] at h
        rcases Zo (YX n) n.Sections.length with ⟨b1, b2⟩ | ⟨i, b1, b2, b3, _⟩
        · rw [b1] at h
          rcases Zo (YQ n) n.Trains.length with ⟨c1, c2⟩ | ⟨i, c1, c2, c3, _⟩
          · exact ⟨a2, b2, c2⟩
          · rw [c1] at h; exact absurd h c3
        · rw [b1] at h; exact absurd h b3
      · rw [a1] at h; exact absurd h a3
theorem QDe {n : FeedNet} (h1 : 0 < n.Stations.length ∧ n.Stations.length ≤ 6) (h2 : 0 < n.Sections.length ∧ n.Sections.length ≤ 10) (h3 : n.Trains.length ≤ 6) (a : ∀ k, k < n.Stations.length → YI n k = 0) (b : ∀ k, k < n.Sections.length → YX n k = 0) (c : ∀ k, k < n.Trains.length → YQ n k = 0) : (Yh n).2 = 0 := by
  unfold Yh
  rw [if_neg (by omega), if_neg (by omega), Qfw a, Qfw b, Qfw c]
theorem QGz {α : Type} (f : α → α) (l : List α) (i : Nat) (h : i < l.length) : ((l.take i).map f ++ l.drop i).set i (f l[i]) = (l.take (i + 1)).map f ++ l.drop (i + 1) := by
  have hlen : ((l.take i).map f).length = i := by simp; omega
  rw [List.drop_eq_getElem_cons h, List.set_append_right _ _ (by omega), hlen, Nat.sub_self, List.set_cons_zero, List.take_add_one, List.getElem?_eq_getElem h, List.map_append]
  simp
theorem Qdb (n : FeedNet) (l : List FeedDeparture) : YV n l = 0 ↔ l.length ≤ 6 ∧ (∀ d ∈ l, 0 ≤ X4 n d.Train ∧ 0 ≤ d.At ∧ d.At ≤ 1000) ∧ l.Pairwise fun a b => a.Train ≠ b.Train := by
  unfold YV
  constructor
  · intro h
    by_cases h6 : 6 < l.length
    · rw [if_pos h6] at h; omega
    · rw [if_neg h6] at h
      have hz := Qjw h
      have hk : ∀ k (hk : k < l.length), Zd n l[k] (l.take k) = 0 := fun k hk => by
        have := hz k hk
        rwa [show Yt n l k = Zd n l[k] (l.take k) from Y5 _ _ _ hk] at this
      have hd : ∀ k (hk : k < l.length), 0 ≤ X4 n l[k].Train ∧ (l.take k).any (fun o => decide (o.Train = l[k].Train)) = false ∧ 0 ≤ l[k].At ∧ l[k].At ≤ 1000 := fun k hk2 => by
        have h1 := hk k hk2
        have h0 := Qfn h1
        unfold Zd at h1
        rw [if_neg (by omega)] at h1
        split at h1
        · cases h1
        · rename_i h2
          cases b : (decide (0 ≤ l[k].At) && decide (l[k].At ≤ 1000)) with
          | false => rw [b] at h1; cases h1
          | true =>
            simp only [Bool.and_eq_true, decide_eq_true_eq] at b
            exact ⟨h0, Bool.eq_false_iff.2 h2, b.1, b.2⟩
      refine ⟨by omega, fun d hdm => ?_, ?_⟩
      · obtain ⟨k, hk2, rfl⟩ := List.mem_iff_getElem.1 hdm
        have := hd k hk2
        exact ⟨this.1, this.2.2⟩
      · rw [List.pairwise_iff_getElem]
        intro i j hi hj hij he
        have := (hd j hj).2.1
        rw [List.any_eq_false] at this
        have h2 := this l[i] (by rw [List.mem_iff_getElem]; exact ⟨i, by rw [List.length_take]; omega, by rw [List.getElem_take]⟩)
        rw [decide_eq_true_eq] at h2
        exact h2 he
  · rintro ⟨h6, hd, hp⟩
    rw [if_neg (by omega), Qfw]
    intro k hk
    rw [show Yt n l k = Zd n l[k] (l.take k) from Y5 _ _ _ hk]
    have h1 := hd _ (List.getElem_mem hk)
    unfold Zd
    have hany : (l.take k).any (fun o => decide (o.Train = l[k].Train)) = false := by
      rw [List.any_eq_false]
      intro o ho
      obtain ⟨j, hj, rfl⟩ := List.mem_iff_getElem.1 ho
      have hjk : j < k := by rw [List.length_take] at hj; omega
      rw [List.getElem_take, decide_eq_true_eq]
      exact (List.pairwise_iff_getElem.1 hp) j k (by omega) hk hjk
    rw [if_neg (by omega), hany, if_neg (by simp), Qcn, decide_eq_true (show 0 ≤ l[k].At ∧ l[k].At ≤ 1000 from h1.2)]
    rfl
theorem Qro {n : FeedNet} {rs : List feed_run} (h : ∀ t k, k < n.Stations.length → Jr n rs t k ≤ 1000000 * Js n k) : YN n rs = none := by
  unfold YN
  rw [List.findSome?_eq_none_iff]
  intro j _
  unfold JU
  rw [List.findSome?_eq_none_iff]
  intro k hk
  unfold ov1
  have := h (YM rs + (j : Int)) k (List.mem_range.1 hk)
  rw [if_neg (by omega)]
theorem Qrw (a b : List feed_run) (t : Int) (s : Nat) : XA (a ++ b) t s = XA a t s + XA b t s := by
  unfold XA; rw [List.map_append, List.sum_append]
theorem Qry (t : Int) (s : Nat) : ∀ rs : List feed_run, XA rs.reverse t s = XA rs t s
  | [] => rfl
  | r :: rs => by
    rw [List.reverse_cons, Qrw, Qry t s rs, show r :: rs = [r] ++ rs from rfl, Qrw]; omega
end Go.Gw

end
section
set_option maxRecDepth 1000000
namespace Go.Gw
open Go
theorem QIp : Qpu 60 = some true := by decide +kernel
theorem QIo : Qfy = some true := QBx _ QIp
end Go.Gw

end
