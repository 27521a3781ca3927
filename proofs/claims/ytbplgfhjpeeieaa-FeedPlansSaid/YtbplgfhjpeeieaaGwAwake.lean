/- Laws of the walk. Condition: each theorem says its own. -/
import Derived.Test.YtbplgfhjpeeieaaGwTwin
import Derived.Test.YtbplgfhjpeeieaaGwPlan
import Derived.IntWalk
set_option linter.unusedVariables false
set_option linter.unusedSimpArgs false
set_option linter.unusedSectionVars false
section
set_option maxRecDepth 1000000
namespace Go.Gw
open Go
theorem QAm : Qug 60 = some true := by decide +kernel
theorem QAl : Qhe = some true := QHo _ QAm
end Go.Gw

end
section
set_option linter.unusedSectionVars false
namespace Go.Gw
open Go

theorem XX {x : Int} (h : -9223372036854775808 ≤ x ∧ x ≤ 9223372036854775807) : w64 x = x := Go.IntWalk.i64_in x h

def Runs {α : Type} (e : Option α) (Q : α → Prop) : Prop := ∃ a, e = some a ∧ Q a

section
variable {α β σ μ : Type} {Q : α → Prop} {e e' : Option α}
theorem Runs.some {a : α} (h : Q a) : Runs (some a) Q := ⟨a, rfl, h⟩
theorem Runs.bind {e : Option β} {f : β → Option α} (h : Runs e fun b => Runs (f b) Q) : Runs (e.bind f) Q := by
  obtain ⟨b, rfl, a, ha, hq⟩ := h; exact ⟨a, ha, hq⟩
theorem Runs.mono {Q' : α → Prop} (h : Runs e Q) (hm : ∀ a, Q a → Q' a) : Runs e Q' := by obtain ⟨a, ha, hq⟩ := h; exact ⟨a, ha, hm _ hq⟩
theorem Runs.eq {a : α} (h : Runs e (· = a)) : e = .some a := by obtain ⟨b, hb, rfl⟩ := h; exact hb
theorem Runs.call {e : Option β} {f : β → Option α} {b : β} (h : e = .some b) (hq : Runs (f b) Q) : Runs (e.bind f) Q := by subst h; exact hq
theorem Runs.bif {b : Bool} (ht : b = true → Runs e Q) (hf : b = false → Runs e' Q) : Runs (bif b then e else e') Q := by
  cases b
  · exact hf rfl
  · exact ht rfl
theorem Runs.jl {b : α} {f : μ → Option α} (h : Q b) : Runs (jn0 (.inl b) f) Q := ⟨b, rfl, h⟩
theorem Runs.j {o : α ⊕ μ} {f : μ → Option α} (hl : ∀ b, o = .inl b → Q b) (hr : ∀ m, o = .inr m → Runs (f m) Q) : Runs (jn0 o f) Q := by
  cases o with
  | inl b => exact Runs.jl (hl b rfl)
  | inr m => exact hr m rfl

def Rnd (I : σ → Prop) (m : σ → Nat) (Q : β → Prop) (s : σ) : σ ⊕ β → Prop
  | .inl s' => I s' ∧ m s' < m s
  | .inr o => Q o
theorem Runs.loop {step : σ → Option (σ ⊕ β)} {s : σ} {Q : β → Prop} (I : σ → Prop) (m : σ → Nat) (h0 : I s) (h : ∀ s, I s → Runs (step s) (Rnd I m Q s)) : Runs (Gw.loop step s) Q := by
  generalize hk : m s = k
  induction k using Nat.strongRecOn generalizing s with
  | _ k ih =>
    obtain ⟨x, hx, hq⟩ := h s h0
    cases x with
    | inl s' =>
      rw [Qcj hx]
      exact ih (m s') (by have := hq.2; omega) hq.1 rfl
    | inr o => rw [Ju hx]; exact ⟨o, rfl, hq⟩
theorem YU {step : σ → Option (σ ⊕ β)} {o : β} (S : Nat → σ) (n : Nat) (h : ∀ k, k < n → step (S k) = .some (.inl (S (k + 1)))) (he : step (S n) = .some (.inr o)) : Gw.loop step (S 0) = .some o := by
  have key : ∀ j k, j + k = n → Gw.loop step (S k) = .some o := by
    intro j
    induction j with
    | zero => intro k hk; obtain rfl : k = n := by omega
              exact Ju he
    | succ j ih => intro k hk; rw [Qcj (h k (by omega))]; exact ih (k + 1) (by omega)
  exact key n 0 (by omega)

theorem Runs.idx {xs : List β} {i : Int} {f : β → Option α} (h0 : 0 ≤ i) (h1 : i < xs.length) (h : ∀ x, xs[i.toNat]? = .some x → Runs (f x) Q) : Runs ((Gw.idx xs i).bind f) Q := by
  have hl : i.toNat < xs.length := by omega
  have e : Gw.idx xs i = .some xs[i.toNat] := by unfold Gw.idx; rw [if_pos h0, List.getElem?_eq_getElem hl]
  exact Runs.call e (h _ (List.getElem?_eq_getElem hl))
theorem Xs {xs : List β} {k : Nat} (h : k < xs.length) : Gw.idx xs (k : Int) = .some xs[k] := by
  unfold Gw.idx; rw [if_pos (by omega), Int.toNat_natCast, List.getElem?_eq_getElem h]
theorem Xs? {xs : List β} {k : Nat} : Gw.idx xs (k : Int) = xs[k]? := by
  unfold Gw.idx; rw [if_pos (by omega), Int.toNat_natCast]
theorem ZP {xs ys : List β} (h : xs.length + ys.length ≤ 1073741824) : app xs ys = .some (xs ++ ys) := by unfold app; rw [if_pos h]
end
end Go.Gw

end
section
set_option linter.unusedSectionVars false
namespace Go.Gw
section
variable {α β γ σ ρ : Type}
def XH (p : α → Bool) (res : Nat → α → ρ) : Nat → List α → ρ ⊕ Unit
  | _, [] => .inr ()
  | k, x :: xs => if p x then .inl (res k x) else XH p res (k + 1) xs
theorem ZT {step : Int → Option (Int ⊕ (ρ ⊕ Unit))} (xs : List α) (p : α → Bool) (res : Nat → α → ρ)
    (hs : ∀ k (hk : k < xs.length), step (k : Int) = (bif p xs[k] then some (.inr (.inl (res k xs[k]))) else some (.inl ((k + 1 : Nat) : Int))))
    (he : step (xs.length : Int) = some (.inr (.inr ()))) : loop step 0 = some (XH p res 0 xs) := by
  have key : ∀ j k, j + k = xs.length → loop step (k : Int) = some (XH p res k (xs.drop k)) := by
    intro j
    induction j with
    | zero =>
      intro k hk
      obtain rfl : k = xs.length := by omega
      rw [List.drop_length]
      exact Ju he
    | succ j ih =>
      intro k hk
      have hlt : k < xs.length := by omega
      rw [List.drop_eq_getElem_cons hlt]
      have := hs k hlt
      cases hp : p xs[k] with
      | true => rw [hp] at this; simp only [XH, hp, if_true]; exact Ju this
      | false => rw [hp] at this; simp only [XH, hp]; rw [Qcj this]; exact ih (k + 1) (by omega)
  have := key xs.length 0 (by omega)
  simpa using this

def fld (f : Nat → γ → α → γ) : Nat → γ → List α → γ
  | _, a, [] => a
  | k, a, x :: xs => fld f (k + 1) (f k a x) xs
theorem QHu {step : σ → Option (σ ⊕ β)} (xs : List α) (f : Nat → γ → α → γ) (S : γ → Nat → σ) (o : γ → β) (Inv : γ → Nat → Prop) (a0 : γ) (h0 : Inv a0 0)
    (hs : ∀ k (hk : k < xs.length) a, Inv a k → step (S a k) = some (.inl (S (f k a xs[k]) (k + 1))) ∧ Inv (f k a xs[k]) (k + 1))
    (he : ∀ a, Inv a xs.length → step (S a xs.length) = some (.inr (o a))) : loop step (S a0 0) = some (o (fld f 0 a0 xs)) ∧ Inv (fld f 0 a0 xs) xs.length := by
  have key : ∀ j k a, j + k = xs.length → Inv a k → loop step (S a k) = some (o (fld f k a (xs.drop k))) ∧ Inv (fld f k a (xs.drop k)) xs.length := by
    intro j
    induction j with
    | zero =>
      intro k a hk hI
      obtain rfl : k = xs.length := by omega
      rw [List.drop_length]
      exact ⟨Ju (he a hI), hI⟩
    | succ j ih =>
      intro k a hk hI
      have hlt : k < xs.length := by omega
      rw [List.drop_eq_getElem_cons hlt]
      have := hs k hlt a hI
      rw [Qcj this.1]
      exact ih (k + 1) _ (by omega) this.2
  have := key xs.length 0 a0 (by omega) h0
  simpa using this

def rng (f : Nat → γ → γ) (a : γ) : Nat → γ
  | 0 => a
  | n + 1 => f n (rng f a n)
theorem XP (k : Nat) (h : k < 4611686018427387904) : w64 ((k : Int) + 1) = ((k + 1 : Nat) : Int) := by rw [XX (by omega)]; omega
theorem XL {k n : Nat} (h : k < n) : decide ((k : Int) < (n : Int)) = true := by simp; omega
theorem XM (n : Nat) : decide ((n : Int) < (n : Int)) = false := by simp
end
end Go.Gw

end
section
set_option maxRecDepth 4096
namespace Go.Gw
open Go

def JW : List Int → Int
  | [] => 0
  | x :: xs => if x = 0 then JW xs else x
theorem Qaz (l : List Int) (hl : l.length < 1073741824) : Zg l = some (JW l) := by
  unfold Zg
  rw [ZT l (fun x => !decide (x = 0)) (fun _ x => x)]
  · have key : ∀ (l : List Int) k, (jn0 (XH (fun x => !decide (x = 0)) (fun _ x => x) k l) fun (_ : Unit) => some 0) = some (JW l) := by
      intro l
      induction l with
      | nil => intro k; rfl
      | cons x xs ih =>
        intro k
        by_cases h : x = 0
        · simp [XH, JW, h]; exact ih _
        · simp [XH, JW, h, jn0]
    simpa using key l 0
  · intro k hk
    unfold Qgr
    rw [XL hk, Xs hk, XP k (by omega)]; rfl
  · unfold Qgr
    rw [XM]; rfl
theorem J3 (b : Bool) (e : Int) : Yf b e = some (bif b then 0 else e) := by cases b <;> rfl
theorem Qcw (n lo hi : Int) : ZS n lo hi = some (decide (lo ≤ n) && decide (n ≤ hi)) := rfl
theorem Qdi (n lo hi : Int) : Jq n lo hi = some (decide (lo ≤ n) && decide (n ≤ hi)) := rfl
theorem QOh (n m : Int) (h : 0 ≤ m) (h2 : m ≤ 9223372036854775807) : Qce n m = some (decide (-m ≤ n) && decide (n ≤ m)) := by
  unfold Qce
  rw [XX (by omega), Qcw, Int.zero_sub]; rfl
theorem Qol {α : Type} (p : α → Bool) : ∀ (l : List α) (k : Nat), (jn0 (β := Int) (XH p (fun k _ => (k : Int)) k l) fun (_ : Unit) => some (-1)) = some (match XH p (fun k _ => (k : Int)) k l with | .inl i => i | .inr _ => -1)
  | l, k => by cases XH p (fun k _ => (k : Int)) k l <;> rfl
theorem Qok {α : Type} (p : α → Bool) : ∀ (l : List α) (k : Nat), decide (0 ≤ (match XH p (fun k _ => (k : Int)) k l with | .inl i => i | .inr _ => (-1 : Int))) = l.any p
  | [], k => by simp [XH]
  | x :: xs, k => by
    by_cases h : p x = true
    · simp [XH, h]
    · simp only [XH, h, List.any_cons]
      have := Qok p xs (k + 1)
      simpa [h] using this
theorem Qai {α ρ : Type} {p : α → Bool} {res : Nat → α → ρ} : ∀ (l : List α) (k : Nat), (XH p res k l = .inr () ∧ l.any p = false) ∨ ∃ j x, XH p res k l = .inl (res j x) ∧ p x = true ∧ l.any p = true
  | [], k => .inl ⟨rfl, rfl⟩
  | x :: xs, k => by
    by_cases h : p x = true
    · exact .inr ⟨k, x, by simp [XH, h], h, by simp [h]⟩
    · rcases Qai xs (k + 1) (p := p) (res := res) with ⟨h1, h2⟩ | ⟨j, y, h1, h2, h3⟩
      · exact .inl ⟨by simp [XH, h, h1], by simp [h, h2]⟩
      · exact .inr ⟨j, y, by simp [XH, h, h1], h2, by simp [h3]⟩
/-! ### Ladders -/
def QHk (l : FeedLadder) : Bool := (l.Ohms.any fun n => !(decide (1 ≤ n) && decide (n ≤ 500))) || (l.Loads.any fun n => !(decide (-20000 ≤ n) && decide (n ≤ 20000)))
def QRd (l : FeedLadder) : Int := if ¬ (0 < l.Loads.length ∧ l.Ohms.length = l.Loads.length + 1) then 10 else if 8 < l.Loads.length then 8 else if QHk l then 2 else 0
end Go.Gw

end
section
set_option maxRecDepth 4096
namespace Go.Gw
open Go
def Yq (f : Nat → Int) (n : Nat) : Option Nat := (List.range n).find? fun i => decide (f i ≠ 0)
theorem Qac (f : Nat → Int) (n : Nat) : (Yq f n = none ∧ ∀ j, j < n → f j = 0) ∨ ∃ i, Yq f n = some i ∧ i < n ∧ f i ≠ 0 ∧ ∀ j, j < i → f j = 0 := by
  cases h : Yq f n with
  | none =>
    refine .inl ⟨rfl, fun j hj => ?_⟩
    have := List.find?_eq_none.1 h j (List.mem_range.2 hj)
    simpa using this
  | some i =>
    right
    obtain ⟨h1, h2, h3⟩ := List.find?_range_eq_some.1 h
    exact ⟨i, rfl, List.mem_range.1 h2, by simpa using h1, fun j hj => by have := h3 j hj; simpa using this⟩
theorem Qaf {σ ρ μ : Type} {step : σ → Option (σ ⊕ (ρ ⊕ μ))} (S : Nat → σ) (n : Nat) (f : Nat → Int) (res : Nat → Int → ρ) (o : μ)
    (hs : ∀ k, k < n → (∀ j, j < k → f j = 0) → step (S k) = if f k = 0 then some (.inl (S (k + 1))) else some (.inr (.inl (res k (f k))))) (he : (∀ j, j < n → f j = 0) → step (S n) = some (.inr (.inr o))) :
    loop step (S 0) = some (match Yq f n with | some i => .inl (res i (f i)) | none => .inr o) := by
  rcases Qac f n with ⟨h1, h2⟩ | ⟨i, h1, h2, h3, h4⟩
  · rw [h1]
    exact YU S n (fun k hk => by rw [hs k hk fun j hj => h2 j (by omega), if_pos (h2 k hk)]) (he h2)
  · rw [h1]
    exact YU S i (fun k hk => by rw [hs k (by omega) fun j hj => h4 j (by omega), if_pos (h4 k hk)]) (by rw [hs i h2 h4, if_neg h3])
/-! ### Names -/
def Qdd (q : Int × Nat) : Bool := (!(((decide (97 ≤ q.1)) && (decide (q.1 ≤ 122))) || ((decide (65 ≤ q.1)) && (decide (q.1 ≤ 90))))) && ((decide ((q.2 : Int) = 0)) || ((!decide (q.1 = 45)) && ((decide (q.1 < 48)) || (decide (57 < q.1)))))
def bi (s : ByteArray) : List Int := bl s
theorem Qgb (s : ByteArray) : (bi s).length = s.size := J9 s
theorem Qty {s : ByteArray} {k : Nat} (h : k < (bi s).length) : idx (α := Int) (bl s) (k : Int) = some (bi s)[k] := Xs (xs := bi s) h
def Qah (s : ByteArray) : Bool := decide (1 ≤ s.size) && (decide (s.size ≤ 12) && !((bi s).zipIdx.any Qdd))
theorem Qxk (s : ByteArray) : s = ByteArray.mk #[] ↔ s.size = 0 := by
  constructor
  · intro h; subst h; rfl
  · intro h
    cases s with
    | mk d =>
      congr 1
      exact Array.eq_empty_of_size_eq_zero h
theorem Qpd (s : ByteArray) : Qde s = some (Qah s) := by
  unfold Qde Qah
  have hlen : (bi s).zipIdx.length = s.size := by rw [List.length_zipIdx, Qgb]
  by_cases h : 1 ≤ s.size ∧ s.size ≤ 12
  · have : (decide ((s.size : Int) < 1) || decide (12 < (s.size : Int))) = false := by
      rw [decide_eq_false (by omega), decide_eq_false (by omega)]; rfl
    rw [this, cond_false, ZT (bi s).zipIdx Qdd (fun _ _ => false), Qw]
    · rcases Qai (p := Qdd) (res := fun _ _ => false) (bi s).zipIdx 0 with ⟨k1, k2⟩ | ⟨j, x, k1, k2, k3⟩
      · rw [k1, k2]; simp [h, jn0]
      · rw [k1, k3]; simp [jn0]
    · intro k hk
      rw [hlen] at hk
      unfold Qkc
      rw [XL hk, cond_true, Qty (show k < (bi s).length by rw [Qgb]; exact hk), Qw, XP k (by omega)]
      simp only [List.getElem_zipIdx, Nat.zero_add]
      rfl
    · rw [hlen]
      unfold Qkc
      rw [XM]; rfl
  · have : (decide ((s.size : Int) < 1) || decide (12 < (s.size : Int))) = true := by
      by_cases h1 : s.size < 1
      · rw [decide_eq_true (by omega)]; rfl
      · rw [decide_eq_true (p := 12 < (s.size : Int)) (by omega)]; simp
    rw [this, cond_true]
    congr 1
    by_cases h1 : 1 ≤ s.size
    · rw [decide_eq_false (p := s.size ≤ 12) (by omega)]; simp
    · rw [decide_eq_false h1]; rfl
theorem QCo (s : ByteArray) (hs : s.size ≤ 1000) : Qdt s = some (Qah s) := by
  unfold Qdt Qah
  have hlen : (bi s).zipIdx.length = s.size := by rw [List.length_zipIdx, Qgb]
  have ht : tob s = some (bl s) := by unfold tob; rw [if_pos (by omega)]
  rw [ht, Qw, ZT (bi s).zipIdx Qdd (fun _ _ => false), Qw]
  · rcases Qai (p := Qdd) (res := fun _ _ => false) (bi s).zipIdx 0 with ⟨k1, k2⟩ | ⟨j, x, k1, k2, k3⟩
    · rw [k1, k2]
      simp only [jn0, Bool.not_false, Bool.and_true, Option.some.injEq]
      by_cases h0 : s.size = 0
      · rw [decide_eq_true ((Qxk s).2 h0), decide_eq_false (show ¬ 1 ≤ s.size by omega)]; rfl
      · rw [decide_eq_false (fun e => h0 ((Qxk s).1 e)), decide_eq_true (show 1 ≤ s.size by omega)]
        simp only [Bool.not_false, Bool.true_and]
        by_cases h1 : s.size ≤ 12
        · rw [decide_eq_true h1, decide_eq_true (by omega)]
        · rw [decide_eq_false h1, decide_eq_false (by omega)]
    · rw [k1, k3]; simp [jn0]
  · intro k hk
    rw [hlen] at hk
    have hk2 : k < (bl s).length := by rw [J9]; exact hk
    unfold Qgt
    rw [XL hk2, cond_true, Qty (show k < (bi s).length by rw [Qgb]; exact hk), Qw, XP k (by omega)]
    simp only [List.getElem_zipIdx, Nat.zero_add]
    rfl
  · rw [hlen, show (s.size : Int) = ((bl s).length : Int) by rw [J9]]
    unfold Qgt
    rw [XM]; rfl
theorem QBl (l : List ByteArray) (v : ByteArray) (hl : l.length < 1000000) : Qfe l v = some (l.any fun x => decide (v = x)) := by
  unfold Qfe Qiv
  rw [ZT l (fun x => decide (v = x)) (fun k _ => (k : Int)), Qw, Qol, Qw, Qok]
  · intro k hk
    unfold Qiu
    rw [XL hk, Xs hk, XP k (by omega)]; rfl
  · unfold Qiu
    rw [XM]; rfl
def ZV (s : ByteArray) (others : List ByteArray) : Int := if Qah s = false then 4 else if (others.any fun x => decide (s = x)) = true then 5 else 0
theorem Qur (s : ByteArray) (others : List ByteArray) (hs : s.size ≤ 1000) (hl : others.length < 1000000) : Qbw s others = some (ZV s others) := by
  unfold Qbw ZV
  rw [QCo s hs, Qw, J3, Qw, QBl _ _ hl, Qw, J3, Qw, Qaz _ (by simp), Qw]
  cases Qah s <;> cases (others.any fun x => decide (s = x)) <;> simp [JW]
end Go.Gw

end
section
set_option maxRecDepth 4096
namespace Go.Gw
open Go
theorem Qgc {α : Type} {c : Bool} {a b : α} : (bif c then some a else some b) = some (bif c then a else b) := by cases c <;> rfl
def Qxi (l r il ir eq sh lo s0 s1 : Bool) : Int := bif (!(l || il)) || !(r || ir) then 6 else bif l && r then 23 else bif eq then 26 else bif !(sh && lo) then 2 else bif (l && !s0) || (r && !s1) then 3 else 0
def ZZ (s : FeedSection) (n : Nat) : Int := Qxi (decide (s.Left = -1)) (decide (s.Right = -1)) (decide (0 ≤ s.Left) && decide (s.Left ≤ (n : Int) - 1)) (decide (0 ≤ s.Right) && decide (s.Right ≤ (n : Int) - 1)) (decide (s.Left = s.Right))
  (decide (0 ≤ s.Share) && decide (s.Share ≤ 1000)) (decide (0 ≤ s.Loss) && decide (s.Loss ≤ 500)) (decide (s.Share = 0)) (decide (s.Share = 1000))
theorem QCs (s : FeedSection) (n : Nat) (hn : n < 1000) : Qeb s (n : Int) = some (ZZ s n) := by
  unfold Qeb Qea ZZ
  rw [XX (by omega)]
  simp only [J3, Qcw, Qw, Qgc]
  rw [Qaz _ (by simp), Qw]
  congr 1
  generalize decide (s.Left = -1) = l
  generalize decide (s.Right = -1) = r
  generalize (decide (0 ≤ s.Left) && decide (s.Left ≤ (n : Int) - 1)) = il
  generalize (decide (0 ≤ s.Right) && decide (s.Right ≤ (n : Int) - 1)) = ir
  generalize decide (s.Left = s.Right) = eq
  generalize (decide (0 ≤ s.Share) && decide (s.Share ≤ 1000)) = sh
  generalize (decide (0 ≤ s.Loss) && decide (s.Loss ≤ 500)) = lo
  generalize decide (s.Share = 0) = s0
  generalize decide (s.Share = 1000) = s1
  revert l r il ir eq sh lo s0 s1
  decide +kernel
theorem QLn (m : FeedNet) (s : FeedSection) (hn : m.Stations.length < 1000) : Qii m s = some (ZZ s m.Stations.length) := by
  unfold Qii Qig ZZ
  rw [XX (by omega)]
  simp only [Qdi, Qw, Qgc]
  congr 1
  generalize decide (s.Left = -1) = l
  generalize decide (s.Right = -1) = r
  generalize (decide (0 ≤ s.Left) && decide (s.Left ≤ (m.Stations.length : Int) - 1)) = il
  generalize (decide (0 ≤ s.Right) && decide (s.Right ≤ (m.Stations.length : Int) - 1)) = ir
  generalize decide (s.Left = s.Right) = eq
  generalize (decide (0 ≤ s.Share) && decide (s.Share ≤ 1000)) = sh
  generalize (decide (0 ≤ s.Loss) && decide (s.Loss ≤ 500)) = lo
  generalize decide (s.Share = 0) = s0
  generalize decide (s.Share = 1000) = s1
  revert l r il ir eq sh lo s0 s1
  decide +kernel
def Z0 (s : FeedStep) (n : Nat) : Int := bif !(decide (0 ≤ s.Section) && decide (s.Section ≤ (n : Int) - 1)) then 6 else bif !(decide (-20000 ≤ s.Power) && decide (s.Power ≤ 20000)) then 2 else 0
def Qiw (l : List FeedStep) (n : Nat) : Int := match Yq (fun i => (l[i]?.map (Z0 · n)).getD 0) l.length with | some i => (l[i]?.map (Z0 · n)).getD 0 | none => 0
def Qzh (e1 e2 : Bool) (o : Bool) (z : Bool) (m : Bool) (st : Int) : Int := bif !(e1 && e2) then 2 else bif !o then 9 else bif !z then 10 else bif !m then 8 else st
def JA (t : FeedTrain) (n : Nat) : Int := Qzh (decide (0 ≤ t.Earliest) && decide (t.Earliest ≤ 1000)) (decide (0 ≤ t.Latest) && decide (t.Latest ≤ 1000)) (decide (t.Earliest ≤ t.Latest)) (decide (0 < (t.Steps.length : Int))) (decide ((t.Steps.length : Int) ≤ 12)) (Qiw t.Steps n)
theorem Qmn (l : List FeedStep) (n k : Nat) (hk : k < l.length) : (l[k]?.map (Z0 · n)).getD 0 = Z0 l[k] n := by rw [List.getElem?_eq_getElem hk]; rfl
theorem QCv (t : FeedTrain) (n : Nat) (hn : n < 1000) (ht : t.Steps.length < 1000) : Qee t (n : Int) = some (JA t n) := by
  have key : loop (Qed (n : Int) t) 0 = some (match Yq (fun i => (t.Steps[i]?.map (Z0 · n)).getD 0) t.Steps.length with | some i => .inl ((t.Steps[i]?.map (Z0 · n)).getD 0) | none => .inr ()) :=
    Qaf (fun k => (k : Int)) t.Steps.length _ (fun _ e => e) () (fun k hk _ => by
      rw [Qmn _ _ _ hk]
      unfold Qed Z0
      rw [XL hk, cond_true, Xs hk, Qw, XP k (by omega), XX (by omega)]
      simp only [J3, Qcw, Qw]
      rw [QOh _ _ (by omega) (by omega)]
      simp only [J3, Qw]
      rw [Qaz _ (by simp), Qw]
      generalize (decide (0 ≤ t.Steps[k].Section) && decide (t.Steps[k].Section ≤ (n : Int) - 1)) = a
      generalize (decide (-20000 ≤ t.Steps[k].Power) && decide (t.Steps[k].Power ≤ 20000)) = b
      cases a <;> cases b <;> rfl) (fun _ => by
      unfold Qed
      rw [XM]; rfl)
  unfold Qee Qbv
  rw [key]
  unfold JA Qiw
  simp only [J3, Qcw, Qw, Qgc]
  rw [Qaz _ (by simp), Qw]
  generalize (decide (0 ≤ t.Earliest) && decide (t.Earliest ≤ 1000)) = e1
  generalize (decide (0 ≤ t.Latest) && decide (t.Latest ≤ 1000)) = e2
  generalize decide (t.Earliest ≤ t.Latest) = o
  generalize decide (0 < (t.Steps.length : Int)) = z
  generalize decide ((t.Steps.length : Int) ≤ 12) = m
  cases Yq (fun i => (t.Steps[i]?.map (Z0 · n)).getD 0) t.Steps.length with
  | none => cases e1 <;> cases e2 <;> cases o <;> cases z <;> cases m <;> rfl
  | some i => cases e1 <;> cases e2 <;> cases o <;> cases z <;> cases m <;> rfl
theorem QLq (m : FeedNet) (t : FeedTrain) (hn : m.Sections.length < 1000) (ht : t.Steps.length < 1000) : Qim m t = some (JA t m.Sections.length) := by
  have key : loop (Qil m t) 0 = some (match Yq (fun i => (t.Steps[i]?.map (Z0 · m.Sections.length)).getD 0) t.Steps.length with | some i => .inl ((t.Steps[i]?.map (Z0 · m.Sections.length)).getD 0) | none => .inr ()) :=
    Qaf (fun k => (k : Int)) t.Steps.length _ (fun _ e => e) () (fun k hk _ => by
      rw [Qmn _ _ _ hk]
      unfold Qil Qns Z0
      rw [XL hk, cond_true, Xs hk, Qw, XP k (by omega), XX (by omega)]
      simp only [Qdi, Qw]
      generalize (decide (0 ≤ t.Steps[k].Section) && decide (t.Steps[k].Section ≤ (m.Sections.length : Int) - 1)) = a
      generalize (decide (-20000 ≤ t.Steps[k].Power) && decide (t.Steps[k].Power ≤ 20000)) = b
      cases a <;> cases b <;> rfl) (fun _ => by
      unfold Qil
      rw [XM]; rfl)
  unfold Qim
  rw [key]
  unfold JA Qiw
  simp only [Qdi, Qw, Qgc]
  rw [show decide (t.Latest < t.Earliest) = !decide (t.Earliest ≤ t.Latest) by rw [← decide_not]; congr 1; exact propext (by omega),
    show decide ((t.Steps.length : Int) = 0) = !decide (0 < (t.Steps.length : Int)) by rw [← decide_not]; congr 1; exact propext (by omega),
    show decide (12 < (t.Steps.length : Int)) = !decide ((t.Steps.length : Int) ≤ 12) by rw [← decide_not]; congr 1; exact propext (by omega)]
  generalize (decide (0 ≤ t.Earliest) && decide (t.Earliest ≤ 1000)) = e1
  generalize (decide (0 ≤ t.Latest) && decide (t.Latest ≤ 1000)) = e2
  generalize decide (t.Earliest ≤ t.Latest) = o
  generalize decide (0 < (t.Steps.length : Int)) = z
  generalize decide ((t.Steps.length : Int) ≤ 12) = q
  cases Yq (fun i => (t.Steps[i]?.map (Z0 · m.Sections.length)).getD 0) t.Steps.length with
  | none => cases e1 <;> cases e2 <;> cases o <;> cases z <;> cases q <;> rfl
  | some i => cases e1 <;> cases e2 <;> cases o <;> cases z <;> cases q <;> rfl
end Go.Gw

end
section
set_option maxRecDepth 4096
namespace Go.Gw
open Go
def stE (s : FeedStation) (others : List ByteArray) : Int := if ZV s.Name others ≠ 0 then ZV s.Name others else bif !(decide (0 ≤ s.Limit) && decide (s.Limit ≤ 100000)) then 2 else 0
def Zv (n : FeedNet) (i : Nat) : Int := (n.Stations[i]?.map fun s => stE s ((n.Stations.take i).map (·.Name))).getD 0
def Zu (n : FeedNet) (i : Nat) : Int := (n.Sections[i]?.map fun s => ZZ s n.Stations.length).getD 0
def J2 (t : FeedTrain) (others : List ByteArray) (n : Nat) : Int := if ZV t.Name others ≠ 0 then ZV t.Name others else JA t n
def Zb (n : FeedNet) (i : Nat) : Int := (n.Trains[i]?.map fun t => J2 t ((n.Trains.take i).map (·.Name)) n.Sections.length).getD 0
def YB (n : FeedNet) : FeedMark × Int :=
  if n.Stations.length = 0 ∨ n.Sections.length = 0 then (FeedMark.mk 0 0, 10) else if 6 < n.Stations.length ∨ 10 < n.Sections.length ∨ 6 < n.Trains.length then (FeedMark.mk 0 0, 8) else
  match Yq (Zv n) n.Stations.length with
  | some i => (FeedMark.mk 1 i, Zv n i)
  | none => match Yq (Zu n) n.Sections.length with
    | some i => (FeedMark.mk 2 i, Zu n i)
    | none => match Yq (Zb n) n.Trains.length with
      | some i => (FeedMark.mk 3 i, Zb n i)
      | none => (FeedMark.mk 0 0, 0)
structure NetS (n : FeedNet) : Prop where
  st : n.Stations.length < 1000
  se : n.Sections.length < 1000
  tr : n.Trains.length < 1000
  sn : ∀ s ∈ n.Stations, s.Name.size ≤ 1000
  tn : ∀ t ∈ n.Trains, t.Name.size ≤ 1000 ∧ t.Steps.length < 1000
theorem JG {α : Type} (l : List α) (f : α → Int) (k : Nat) (hk : k < l.length) : (l[k]?.map f).getD 0 = f l[k] := by rw [List.getElem?_eq_getElem hk]; rfl
theorem Qiy {α β : Type} (l : List α) (f : α → β) (k : Nat) (hk : k < l.length) : (l.take k).map f ++ [f l[k]] = (l.take (k + 1)).map f := by
  rw [List.take_add_one, List.getElem?_eq_getElem hk, List.map_append]; rfl
theorem Qml (a b : Int) : JW [a, b] = if a ≠ 0 then a else b := by
  by_cases h : a = 0
  · by_cases h2 : b = 0 <;> simp [JW, h, h2]
  · simp [JW, h]
section
variable {n : FeedNet} (h : NetS n)
include h
theorem QCu : loop (Qdp n) (([] : List ByteArray), 0) = some (match Yq (Zv n) n.Stations.length with | some i => .inl (FeedMark.mk 1 i, Zv n i) | none => .inr ()) :=
  Qaf (fun k => ((n.Stations.take k).map (·.Name), (k : Int))) n.Stations.length (Zv n) (fun i e => (FeedMark.mk 1 i, e)) () (fun k hk _ => by
    have hst := h.st
    have hs : Zv n k = stE n.Stations[k] ((n.Stations.take k).map (·.Name)) := JG _ _ _ hk
    rw [hs]
    unfold Qdp stE
    simp only [XL hk, cond_true, Xs hk, Qw]
    rw [Qur _ _ (h.sn _ (List.getElem_mem hk)) (by simp; omega), Qw]
    simp only [Qcw, J3, Qw]
    rw [Qaz _ (by simp), Qw, Qml]
    generalize (decide (0 ≤ n.Stations[k].Limit) && decide (n.Stations[k].Limit ≤ 100000)) = b
    by_cases h1 : ZV n.Stations[k].Name ((n.Stations.take k).map (·.Name)) = 0
    · simp only [h1, ne_eq, not_true_eq_false, if_false]
      cases b
      · rfl
      · simp only [cond_true, decide_true, Bool.not_true, cond_false, if_true]
        rw [ZP (by simp; omega), Qw, Qiy n.Stations (·.Name) k hk, XP k (by omega)]
    · simp only [ne_eq, h1, not_false_eq_true, if_true, decide_false, Bool.not_false, cond_true, if_false]) (fun _ => by
    unfold Qdp
    simp only [XM]; rfl)
theorem QCt : loop (Qdq n) 0 = some (match Yq (Zu n) n.Sections.length with | some i => .inl (FeedMark.mk 2 i, Zu n i) | none => .inr ()) :=
  Qaf (fun k => (k : Int)) n.Sections.length (Zu n) (fun i e => (FeedMark.mk 2 i, e)) () (fun k hk _ => by
    have hse := h.se
    have hs : Zu n k = ZZ n.Sections[k] n.Stations.length := JG _ _ _ hk
    rw [hs]
    unfold Qdq
    rw [XL hk, cond_true, Xs hk, Qw, QCs _ _ h.st, Qw, XP k (by omega)]
    by_cases h1 : ZZ n.Sections[k] n.Stations.length = 0
    · simp [h1]
    · simp [h1]) (fun _ => by
    unfold Qdq
    rw [XM]; rfl)
theorem QCw : loop (Qdr n) (([] : List ByteArray), 0) = some (match Yq (Zb n) n.Trains.length with | some i => .inl (FeedMark.mk 3 i, Zb n i) | none => .inr ()) :=
  Qaf (fun k => ((n.Trains.take k).map (·.Name), (k : Int))) n.Trains.length (Zb n) (fun i e => (FeedMark.mk 3 i, e)) () (fun k hk _ => by
    have hst := h.tr
    have hs : Zb n k = J2 n.Trains[k] ((n.Trains.take k).map (·.Name)) n.Sections.length := JG _ _ _ hk
    rw [hs]
    unfold Qdr J2
    simp only [XL hk, cond_true, Xs hk, Qw]
    rw [Qur _ _ (h.tn _ (List.getElem_mem hk)).1 (by simp; omega), Qw, QCv _ _ h.se (h.tn _ (List.getElem_mem hk)).2, Qw]
    rw [Qaz _ (by simp), Qw, Qml]
    by_cases h1 : ZV n.Trains[k].Name ((n.Trains.take k).map (·.Name)) = 0
    · simp only [h1, ne_eq, not_true_eq_false, if_false]
      by_cases h2 : JA n.Trains[k] n.Sections.length = 0
      · simp only [h2, decide_true, Bool.not_true, cond_false, if_true]
        rw [ZP (by simp; omega), Qw, Qiy n.Trains (·.Name) k hk, XP k (by omega)]
      · simp [h2]
    · simp only [ne_eq, h1, not_false_eq_true, if_true, decide_false, Bool.not_false, cond_true, if_false]) (fun _ => by
    unfold Qdr
    simp only [XM]; rfl)
theorem Qkz : Qds n = some (YB n) := by
  unfold Qds YB
  rw [QCu h, QCt h, QCw h]
  simp only [J3, Qw]
  rw [Qaz _ (by simp), Qw, Qml]
  by_cases h1 : n.Stations.length = 0 ∨ n.Sections.length = 0
  · rw [if_pos h1]
    have : (decide (0 < (n.Stations.length : Int)) && decide (0 < (n.Sections.length : Int))) = false := by
      rw [Bool.eq_false_iff]; intro e; simp at e; omega
    rw [this]; rfl
  · rw [if_neg h1]
    have : (decide (0 < (n.Stations.length : Int)) && decide (0 < (n.Sections.length : Int))) = true := by
      simp; omega
    rw [this]
    by_cases h2 : 6 < n.Stations.length ∨ 10 < n.Sections.length ∨ 6 < n.Trains.length
    · rw [if_pos h2]
      have : ((decide ((n.Stations.length : Int) ≤ 6) && decide ((n.Sections.length : Int) ≤ 10)) && decide ((n.Trains.length : Int) ≤ 6)) = false := by
        rw [Bool.eq_false_iff]; intro e; simp at e; omega
      rw [this]; rfl
    · rw [if_neg h2]
      have : ((decide ((n.Stations.length : Int) ≤ 6) && decide ((n.Sections.length : Int) ≤ 10)) && decide ((n.Trains.length : Int) ≤ 6)) = true := by
        simp; omega
      rw [this]
      cases Yq (Zv n) n.Stations.length with
      | some i => rfl
      | none =>
        cases Yq (Zu n) n.Sections.length with
        | some i => rfl
        | none =>
          cases Yq (Zb n) n.Trains.length with
          | some i => rfl
          | none => rfl
end
end Go.Gw

end
section
set_option maxRecDepth 4096
namespace Go.Gw
open Go
theorem Qyo {α : Type} {p : α → Bool} : ∀ (l : List α) (k m : Nat) (hk : k < l.length), p l[k] = true → ∃ j : Nat, XH p (fun k _ => (k : Int)) m l = .inl ((m + j : Nat) : Int) ∧ (j < k ↔ (l.take k).any p = true)
  | x :: xs, 0, m, _, hp => ⟨0, by simp at hp; simp [XH, hp], by simp⟩
  | x :: xs, k + 1, m, hk, hp => by
    by_cases hx : p x = true
    · exact ⟨0, by simp [XH, hx], by simp [hx]⟩
    · obtain ⟨j, h1, h2⟩ := Qyo xs k (m + 1) (by simpa using hk) (by simpa using hp)
      refine ⟨j + 1, by simp only [XH, hx]; rw [← show m + 1 + j = m + (j + 1) by omega]; simpa using h1, ?_⟩
      simp only [List.take_succ_cons, List.any_cons, hx]
      rw [← (show ((l : Bool) → (false || l) = l) from fun l => by cases l <;> rfl) ((xs.take k).any p)] at h2
      constructor
      · intro h; simpa using h2.1 (by omega)
      · intro h; have := h2.2 (by simpa using h); omega
theorem Qjy {α : Type} (f : α → ByteArray) (l : List α) (s : ByteArray) : ((l.map f).any fun x => decide (s = x)) = l.any fun y => decide (f y = s) := by
  rw [List.any_map]
  congr 1
  funext y
  exact decide_eq_decide.2 eq_comm
def Y3 (n : FeedNet) (s : ByteArray) : Int := match XH (fun t : FeedTrain => decide (t.Name = s)) (fun k _ => (k : Int)) 0 n.Trains with | .inl i => i | .inr _ => -1
theorem Qnm (n : FeedNet) (s : ByteArray) (h : n.Trains.length < 1000000) : Qcp n s = some (Y3 n s) := by
  unfold Qcp Y3
  rw [ZT n.Trains (fun t => decide (t.Name = s)) (fun k _ => (k : Int)), Qw, Qol]
  all_goals first
    | (intro k hk; unfold Qnq; rw [XL hk, cond_true, Xs hk, Qw, XP k (by omega)])
    | (unfold Qnq; rw [XM]; rfl)
    | rfl
section
variable {n : FeedNet} (h : NetS n)
include h
theorem QLp : loop (Qhr n) 0 = some (match Yq (Zv n) n.Stations.length with | some i => .inl (FeedMark.mk 1 i, Zv n i) | none => .inr ()) :=
  Qaf (fun k => (k : Int)) n.Stations.length (Zv n) (fun i e => (FeedMark.mk 1 i, e)) () (fun k hk _ => by
    have hst := h.st
    have hs : Zv n k = stE n.Stations[k] ((n.Stations.take k).map (·.Name)) := JG _ _ _ hk
    have hlen : (n.Stations.take k).length = k := by simp; omega
    have inner : loop (Qhq n (k : Int)) 0 = some (XH (fun y : FeedStation => decide (y.Name = n.Stations[k].Name)) (fun _ _ => Sum.inr (α := Int) (Sum.inl (β := Unit) (FeedMark.mk 1 (k : Int), (5 : Int)))) 0 (n.Stations.take k)) :=
      ZT (n.Stations.take k) _ _ (fun j hj => by
        rw [hlen] at hj
        unfold Qhq
        rw [XL hj, cond_true, Xs (show j < n.Stations.length by omega), Qw, Xs hk, Qw, XP j (by omega)]
        simp only [List.getElem_take]) (by
        rw [hlen]
        unfold Qhq
        rw [XM]; rfl)
    rw [hs]
    unfold Qhr stE ZV
    rw [XL hk, cond_true, Xs hk, Qw, Qpd, Qw, inner, Qjy]
    cases hn : Qah n.Stations[k].Name
    · rfl
    · simp only [Bool.not_true, cond_false, Qw]
      rcases Qai (p := fun y : FeedStation => decide (y.Name = n.Stations[k].Name)) (res := fun _ _ => Sum.inr (α := Int) (Sum.inl (β := Unit) (FeedMark.mk 1 (k : Int), (5 : Int)))) (n.Stations.take k) 0 with ⟨k1, k2⟩ | ⟨j, x, k1, k2, k3⟩
      · rw [k1, k2]
        simp only [jn0, Qw, Qdi, XP k (show k < 4611686018427387904 by omega)]
        generalize (decide (0 ≤ n.Stations[k].Limit) && decide (n.Stations[k].Limit ≤ 100000)) = b
        cases b <;> rfl
      · rw [k1, k3]; rfl) (fun _ => by
    unfold Qhr
    rw [XM]; rfl)
theorem QLo : loop (Qhs n) 0 = some (match Yq (Zu n) n.Sections.length with | some i => .inl (FeedMark.mk 2 i, Zu n i) | none => .inr ()) :=
  Qaf (fun k => (k : Int)) n.Sections.length (Zu n) (fun i e => (FeedMark.mk 2 i, e)) () (fun k hk _ => by
    have hse := h.se
    have hs : Zu n k = ZZ n.Sections[k] n.Stations.length := JG _ _ _ hk
    rw [hs]
    unfold Qhs
    rw [XL hk, cond_true, Xs hk, Qw, QLn _ _ h.st, Qw, XP k (by omega)]
    by_cases h1 : ZZ n.Sections[k] n.Stations.length = 0
    · simp [h1]
    · simp [h1]) (fun _ => by
    unfold Qhs
    rw [XM]; rfl)
theorem QLr : loop (Qht n) 0 = some (match Yq (Zb n) n.Trains.length with | some i => .inl (FeedMark.mk 3 i, Zb n i) | none => .inr ()) :=
  Qaf (fun k => (k : Int)) n.Trains.length (Zb n) (fun i e => (FeedMark.mk 3 i, e)) () (fun k hk _ => by
    have hst := h.tr
    have hs : Zb n k = J2 n.Trains[k] ((n.Trains.take k).map (·.Name)) n.Sections.length := JG _ _ _ hk
    obtain ⟨j, hj1, hj2⟩ := Qyo (p := fun t : FeedTrain => decide (t.Name = n.Trains[k].Name)) n.Trains k 0 hk (by simp)
    have ht : Y3 n n.Trains[k].Name = (j : Int) := by unfold Y3; rw [hj1]; simp
    rw [hs]
    unfold Qht J2 ZV
    rw [XL hk, cond_true, Xs hk, Qw, Qpd, Qw, Qjy]
    cases hn : Qah n.Trains[k].Name
    · rfl
    · simp only [Bool.not_true, cond_false, Qw]
      rw [Qnm _ _ (by omega), ht, Qw, QLq _ _ h.se (h.tn _ (List.getElem_mem hk)).2, Qw, XP k (by omega)]
      cases ha : (n.Trains.take k).any (fun t => decide (t.Name = n.Trains[k].Name)) with
      | true =>
        rw [decide_eq_true (show (j : Int) < k by have := hj2.2 ha; omega)]; rfl
      | false =>
        rw [decide_eq_false (show ¬ (j : Int) < k by intro e; have := hj2.1 (by omega); rw [ha] at this; cases this)]
        by_cases h2 : JA n.Trains[k] n.Sections.length = 0
        · simp [h2]
        · simp [h2]) (fun _ => by
    unfold Qht
    rw [XM]; rfl)
theorem QLf : Qhu n = some (YB n) := by
  unfold Qhu YB
  rw [QLp h, QLo h, QLr h]
  by_cases h1 : n.Stations.length = 0 ∨ n.Sections.length = 0
  · rw [if_pos h1]
    have : (decide ((n.Stations.length : Int) = 0) || decide ((n.Sections.length : Int) = 0)) = true := by
      simp only [Bool.or_eq_true, decide_eq_true_eq]; omega
    rw [this]; rfl
  · rw [if_neg h1]
    have : (decide ((n.Stations.length : Int) = 0) || decide ((n.Sections.length : Int) = 0)) = false := by
      rw [decide_eq_false (by omega), decide_eq_false (by omega)]; rfl
    rw [this, cond_false]
    by_cases h2 : 6 < n.Stations.length ∨ 10 < n.Sections.length ∨ 6 < n.Trains.length
    · rw [if_pos h2]
      have : ((decide (6 < (n.Stations.length : Int)) || decide (10 < (n.Sections.length : Int))) || decide (6 < (n.Trains.length : Int))) = true := by
        simp only [Bool.or_eq_true, decide_eq_true_eq]; omega
      rw [this]; rfl
    · rw [if_neg h2]
      have : ((decide (6 < (n.Stations.length : Int)) || decide (10 < (n.Sections.length : Int))) || decide (6 < (n.Trains.length : Int))) = false := by
        rw [decide_eq_false (by omega), decide_eq_false (by omega), decide_eq_false (by omega)]; rfl
      rw [this, cond_false]
      cases Yq (Zv n) n.Stations.length with
      | some i => rfl
      | none =>
        cases Yq (Zu n) n.Sections.length with
        | some i => rfl
        | none =>
          cases Yq (Zb n) n.Trains.length with
          | some i => rfl
          | none => rfl
end
end Go.Gw

end
section
set_option maxRecDepth 4096
namespace Go.Gw
open Go
theorem QBn (l : List FeedDeparture) (h : l.length < 1000000) : Qhv l = some l := by
  unfold Qhv; rw [ZP (by simp; omega)]; rfl
theorem QBo {n : FeedNet} (h : NetS n) : Qhx n = some n := by
  have key : loop (Qhw n) (0, ([] : List FeedTrain)) = some n.Trains :=
    YU (fun k => ((k : Int), n.Trains.take k)) n.Trains.length (fun k hk => by
      have hst := h.tr
      have hsteps := (h.tn _ (List.getElem_mem hk)).2
      unfold Qhw
      simp only [XL hk, cond_true, Xs hk, Qw]
      rw [ZP (by simp; omega), Qw, ZP (by simp; omega), Qw, XP k (by omega), List.nil_append]
      congr 3
      rw [List.take_add_one, List.getElem?_eq_getElem hk]; rfl) (by
      unfold Qhw
      simp only [XM, cond_false, List.take_length])
  unfold Qhx
  have h1 := h.st
  have h2 := h.se
  rw [ZP (by simp; omega), ZP (by simp; omega), key]
  rfl
def Qef (n : FeedNet) : Bool := !(decide (8 < n.Stations.length) || decide (12 < n.Sections.length) || decide (8 < n.Trains.length)) && !(n.Stations.any fun s => decide (20 < (s.Name.size : Int))) && !(n.Trains.any fun t => decide (20 < (t.Name.size : Int)) || decide (14 < (t.Steps.length : Int)))
theorem QGz (n : FeedNet) : Qhb n = some (Qef n) := by
  unfold Qhb Qef
  by_cases h : 8 < n.Stations.length ∨ 12 < n.Sections.length ∨ 8 < n.Trains.length
  · have e1 : ((decide (8 < (n.Stations.length : Int)) || decide (12 < (n.Sections.length : Int))) || decide (8 < (n.Trains.length : Int))) = true := by
      simp only [Bool.or_eq_true, decide_eq_true_eq]; omega
    have e2 : (decide (8 < n.Stations.length) || decide (12 < n.Sections.length) || decide (8 < n.Trains.length)) = true := by
      simp only [Bool.or_eq_true, decide_eq_true_eq]; omega
    rw [e1, e2]; rfl
  · have e1 : ((decide (8 < (n.Stations.length : Int)) || decide (12 < (n.Sections.length : Int))) || decide (8 < (n.Trains.length : Int))) = false := by
      rw [decide_eq_false (by omega), decide_eq_false (by omega), decide_eq_false (by omega)]; rfl
    have e2 : (decide (8 < n.Stations.length) || decide (12 < n.Sections.length) || decide (8 < n.Trains.length)) = false := by
      rw [decide_eq_false (by omega), decide_eq_false (by omega), decide_eq_false (by omega)]; rfl
    rw [e1, e2, cond_false, ZT n.Stations (fun s => decide (20 < (s.Name.size : Int))) (fun _ _ => false), Qw, ZT n.Trains (fun t => decide (20 < (t.Name.size : Int)) || decide (14 < (t.Steps.length : Int))) (fun _ _ => false)]
    · rcases Qai (p := fun s : FeedStation => decide (20 < (s.Name.size : Int))) (res := fun _ _ => false) n.Stations 0 with ⟨k1, k2⟩ | ⟨j, x, k1, k2, k3⟩
      · rw [k1, k2]
        rcases Qai (p := fun t : FeedTrain => decide (20 < (t.Name.size : Int)) || decide (14 < (t.Steps.length : Int))) (res := fun _ _ => false) n.Trains 0 with ⟨k3, k4⟩ | ⟨j, x, k3, k4, k5⟩
        · rw [k3, k4]; rfl
        · rw [k3, k5]; rfl
      · rw [k1, k3]; rfl
    · intro k hk
      unfold Qmr
      rw [XL hk, cond_true, Xs hk, Qw, XP k (by omega)]
      cases h1 : decide (20 < (n.Trains[k].Name.size : Int)) <;> simp
    · unfold Qmr
      rw [XM]; rfl
    · intro k hk
      unfold Qmq
      rw [XL hk, cond_true, Xs hk, Qw, XP k (by omega)]
    · unfold Qmq
      rw [XM]; rfl
theorem QGy {n : FeedNet} (h : Qef n = true) : NetS n := by
  unfold Qef at h
  simp only [Bool.and_eq_true, Bool.not_eq_true', Bool.or_eq_false_iff, decide_eq_false_iff_not, List.any_eq_false] at h
  obtain ⟨⟨⟨⟨h1, h2⟩, h3⟩, h4⟩, h5⟩ := h
  refine ⟨by omega, by omega, by omega, fun s hs => ?_, fun t ht => ?_⟩
  · have := h4 s hs; simp at this; omega
  · have := h5 t ht; simp at this; omega
def QRh (l : List FeedDeparture) : Bool := !(decide (8 < l.length)) && !(l.any fun d => decide (20 < (d.Train.size : Int)))
end Go.Gw

end
section
set_option maxRecDepth 4096
namespace Go.Gw
open Go
def QBr (n : FeedNet) (d : FeedDeparture) (others : List FeedDeparture) : Int := if Y3 n d.Train < 0 then 6 else if (others.any fun o => decide (o.Train = d.Train)) = true then 26 else bif !(decide (0 ≤ d.At) && decide (d.At ≤ 1000)) then 2 else 0
def Qqd (n : FeedNet) (l : List FeedDeparture) (i : Nat) : Int := (l[i]?.map fun d => QBr n d (l.take i)).getD 0
def Q4 (n : FeedNet) (d : FeedDeparture) : feed_run := feed_run.mk (n.Trains[(Y3 n d.Train).toNat]?.getD default) d.At
theorem Qzg {n : FeedNet} {s : ByteArray} (h : 0 ≤ Y3 n s) : ∃ t, n.Trains[(Y3 n s).toNat]? = some t ∧ t.Name = s ∧ (Y3 n s).toNat < n.Trains.length := by
  have key : ∀ (l : List FeedTrain) (m : Nat), (XH (fun t : FeedTrain => decide (t.Name = s)) (fun k _ => (k : Int)) m l = .inr ()) ∨ ∃ (j : Nat) (t : FeedTrain), XH (fun t : FeedTrain => decide (t.Name = s)) (fun k _ => (k : Int)) m l = .inl ((m + j : Nat) : Int) ∧ l[j]? = some t ∧ t.Name = s := by
    intro l
    induction l with
    | nil => intro m; exact .inl rfl
    | cons x xs ih =>
      intro m
      by_cases hx : x.Name = s
      · exact .inr ⟨0, x, by simp [XH, hx], rfl, hx⟩
      · rcases ih (m + 1) with h1 | ⟨j, t, h1, h2, h3⟩
        · exact .inl (by simp [XH, hx, h1])
        · exact .inr ⟨j + 1, t, by simp only [XH, hx, decide_false]; rw [← show m + 1 + j = m + (j + 1) by omega]; simpa using h1, h2, h3⟩
  rcases key n.Trains 0 with h1 | ⟨j, t, h1, h2, h3⟩
  · unfold Y3 at h; rw [h1] at h; simp at h
  · have e : Y3 n s = (j : Int) := by unfold Y3; rw [h1]; simp
    rw [e]
    exact ⟨t, by simpa using h2, h3, by simpa using (List.getElem?_eq_some_iff.1 h2).1⟩
end Go.Gw

end
section
set_option maxRecDepth 4096
namespace Go.Gw
open Go
/-! ### The greatest common divisor -/
noncomputable def QHv (n A : Int) : Frac := (QAs n A).getD default
/-! ### Sums -/
theorem Qom {c : Int} (hc : 0 ≤ c) : ∀ {l : List Int}, (∀ x ∈ l, -c ≤ x ∧ x ≤ c) → -(c * l.length) ≤ l.sum ∧ l.sum ≤ c * l.length
  | [], _ => by simp
  | x :: l, h => by
    have h1 := h x (List.mem_cons_self ..)
    have h2 := Qom hc (l := l) fun y hy => h y (List.mem_cons_of_mem _ hy)
    simp only [List.sum_cons, List.length_cons]
    have : c * ((l.length + 1 : Nat) : Int) = c * l.length + c := by rw [Int.natCast_add, Int.mul_add]; simp
    rw [this]
    omega
theorem Qyq {l : List Int} {k : Nat} (hk : k < l.length) : (l.take (k + 1)).sum = (l.take k).sum + l[k] := by
  rw [List.take_add_one, List.getElem?_eq_getElem hk, List.sum_append]
  simp
theorem QOl {l : List Int} {c : Int} (hc : 0 ≤ c) (hc2 : c ≤ 1000000000) (h : ∀ x ∈ l, -c ≤ x ∧ x ≤ c) (hl : l.length ≤ 1000) : Qik l = some l.sum := by
  have key : loop (Qij l) (0, 0) = some l.sum := YU (o := l.sum) (fun k => ((l.take k).sum, (k : Int))) l.length ?_ ?_
  · unfold Qik
    rw [key]; rfl
  · intro k hk
    unfold Qij
    have hb := Qom hc (l := l.take (k + 1)) fun x hx => h x (List.mem_of_mem_take hx)
    have hlen : (l.take (k + 1)).length = k + 1 := by simp; omega
    rw [hlen, Qyq hk] at hb
    have hm : c * ((k + 1 : Nat) : Int) ≤ 1000000000 * 1000 := Int.mul_le_mul hc2 (by omega) (by omega) (by omega)
    simp only [XL hk, cond_true, Xs hk, Qw]
    rw [XX (by omega), XP k (by omega), Qyq hk]
  · unfold Qij
    simp only [XM, cond_false, List.take_length]
end Go.Gw

end
section
set_option maxRecDepth 4096
namespace Go.Gw
open Go
def Jc (st : List FeedStep) (k : Int) (s : Nat) : Int := if 0 ≤ k ∧ k ≤ (st.length : Int) - 1 then (match st[k.toNat]? with | some x => if x.Section = (s : Int) then x.Power else 0 | none => 0) else 0
def XG (l : List feed_run) (t : Int) (s : Nat) : Int := (l.map fun r => Jc r.FeedTrain.Steps (t - r.at_) s).sum
def Z3 (m : Nat) (r : feed_run) : Prop := (∀ x ∈ r.FeedTrain.Steps, 0 ≤ x.Section ∧ x.Section ≤ (m : Int) - 1 ∧ -20000 ≤ x.Power ∧ x.Power ≤ 20000) ∧ r.FeedTrain.Steps.length ≤ 12 ∧ 0 ≤ r.at_ ∧ r.at_ ≤ 1000
theorem QBt {m : Nat} {r : feed_run} (h : Z3 m r) (k : Int) (s : Nat) : -20000 ≤ Jc r.FeedTrain.Steps k s ∧ Jc r.FeedTrain.Steps k s ≤ 20000 := by
  unfold Jc
  split
  · split
    · rename_i x hx
      have := h.1 x (List.mem_of_getElem? hx)
      split <;> omega
    · omega
  · omega
theorem Qnk {m : Nat} {l : List feed_run} (h : ∀ r ∈ l, Z3 m r) (t : Int) (s : Nat) : -(20000 * (l.length : Int)) ≤ XG l t s ∧ XG l t s ≤ 20000 * (l.length : Int) := by
  have := Qom (c := 20000) (by omega) (l := l.map fun r => Jc r.FeedTrain.Steps (t - r.at_) s) fun x hx => by
    obtain ⟨r, hr, rfl⟩ := List.mem_map.1 hx
    exact QBt (h r hr) _ _
  simpa [XG] using this
theorem Qnl {l : List feed_run} {t : Int} {s k : Nat} (hk : k < l.length) : XG (l.take (k + 1)) t s = XG (l.take k) t s + Jc l[k].FeedTrain.Steps (t - l[k].at_) s := by
  unfold XG
  rw [List.take_add_one, List.getElem?_eq_getElem hk, List.map_append, List.sum_append]
  simp
theorem QMw {m : Nat} {f g : Nat → Int} {s : Nat} (hs : s < m) (hv : ∀ i, i ≠ s → g i = f i) : ((List.range m).map f).set s (g s) = (List.range m).map g := by
  apply List.ext_getElem?
  intro i
  by_cases hi : i = s
  · subst hi
    rw [List.getElem?_set_self (by simpa using hs)]
    simp [hs]
  · rw [List.getElem?_set_ne (Ne.symm hi)]
    by_cases him : i < m
    · simp [him, hv i hi]
    · simp [him]
theorem Qmx (m : Nat) (h : m < 1000) : mk (m : Int) (0 : Int) = some ((List.range m).map fun _ => (0 : Int)) := by
  unfold mk
  rw [if_pos (by omega)]
  congr 1
  apply List.ext_getElem?
  intro i
  by_cases hi : i < m <;> simp [hi]
theorem QOk {m : Nat} {r : feed_run} (h : Z3 m r) {t : Int} (ht : 0 ≤ t) (ht2 : t ≤ 100000) :
    ∃ o, Qcd r t = some o ∧ ((o.2 = false ∧ ∀ s, Jc r.FeedTrain.Steps (t - r.at_) s = 0) ∨ (o.2 = true ∧ 0 ≤ o.1.Section ∧ o.1.Section ≤ (m : Int) - 1 ∧ -20000 ≤ o.1.Power ∧ o.1.Power ≤ 20000 ∧ ∀ s : Nat, Jc r.FeedTrain.Steps (t - r.at_) s = if o.1.Section = (s : Int) then o.1.Power else 0)) := by
  obtain ⟨h1, h2, h3, h4⟩ := h
  unfold Qcd
  rw [XX (by omega), XX (by omega), Qcw, Qw]
  by_cases hin : 0 ≤ t - r.at_ ∧ t - r.at_ ≤ (r.FeedTrain.Steps.length : Int) - 1
  · have e : (decide (0 ≤ t - r.at_) && decide (t - r.at_ ≤ (r.FeedTrain.Steps.length : Int) - 1)) = true := by
      rw [decide_eq_true hin.1, decide_eq_true hin.2]; rfl
    have hk : (t - r.at_).toNat < r.FeedTrain.Steps.length := by omega
    have hidx : idx r.FeedTrain.Steps (t - r.at_) = some r.FeedTrain.Steps[(t - r.at_).toNat] := by
      unfold idx; rw [if_pos hin.1, List.getElem?_eq_getElem hk]
    rw [e]
    simp only [Bool.not_true, cond_false]
    rw [hidx, Qw]
    have hb := h1 _ (List.getElem_mem hk)
    refine ⟨_, rfl, .inr ⟨rfl, hb.1, hb.2.1, hb.2.2.1, hb.2.2.2, fun s => ?_⟩⟩
    unfold Jc
    rw [if_pos hin, List.getElem?_eq_getElem hk]
  · have e : (decide (0 ≤ t - r.at_) && decide (t - r.at_ ≤ (r.FeedTrain.Steps.length : Int) - 1)) = false := by
      rw [Bool.eq_false_iff]; intro e; simp at e; exact hin (by omega)
    rw [e]
    exact ⟨_, rfl, .inl ⟨rfl, fun s => by unfold Jc; rw [if_neg hin]⟩⟩
theorem QKy {n : FeedNet} {l : List feed_run} (hn : n.Sections.length < 1000) (hl : l.length ≤ 8) (h : ∀ r ∈ l, Z3 n.Sections.length r) {t : Int} (ht : 0 ≤ t) (ht2 : t ≤ 100000) :
    Qcc ⟨n⟩ l t = some ((List.range n.Sections.length).map (XG l t)) := by
  have key : loop (Qdv l t) ((List.range n.Sections.length).map (fun _ => (0 : Int)), 0) = some ((List.range n.Sections.length).map (XG l t)) :=
    YU (fun k => ((List.range n.Sections.length).map (XG (l.take k) t), (k : Int))) l.length (fun k hk => by
      obtain ⟨o, ho, hc⟩ := QOk (h _ (List.getElem_mem hk)) ht ht2
      unfold Qdv
      simp only [XL hk, cond_true, Xs hk, Qw, ho]
      rw [XP k (by omega)]
      rcases hc with ⟨h1, h2⟩ | ⟨h1, h2, h3, h4, h5, h6⟩
      · rw [h1, cond_false]
        congr 3
        apply List.map_congr_left
        intro s _
        rw [Qnl hk, h2 s]; simp
      · rw [h1, cond_true]
        have hs : o.1.Section.toNat < n.Sections.length := by omega
        have hsi : ((o.1.Section.toNat : Nat) : Int) = o.1.Section := by omega
        have hidx : idx ((List.range n.Sections.length).map (XG (l.take k) t)) o.1.Section = some (XG (l.take k) t o.1.Section.toNat) := by
          unfold idx; rw [if_pos h2]; simp [hs]
        have hb := Qnk (l := l.take k) (fun r hr => h r (List.mem_of_mem_take hr)) t o.1.Section.toNat
        have hlen : (l.take k).length ≤ 8 := by rw [List.length_take]; omega
        have hnew : w64 (XG (l.take k) t o.1.Section.toNat + o.1.Power) = XG (l.take (k + 1)) t o.1.Section.toNat := by
          rw [Qnl hk, h6, if_pos (by omega)]; exact XX (by omega)
        rw [hidx, Qw, Qw, hnew, QMw (f := XG (l.take k) t) (g := XG (l.take (k + 1)) t) hs (fun i hi => by rw [Qnl hk, h6, if_neg (by omega)]; simp)]) (by
      unfold Qdv
      simp only [XM, cond_false, List.take_length])
  unfold Qcc
  rw [Qmx _ hn, Qw, key]; rfl
end Go.Gw

end
section
set_option maxRecDepth 4096
namespace Go.Gw
open Go
structure NetOk (n : FeedNet) : Prop where
  st0 : 0 < n.Stations.length
  st6 : n.Stations.length ≤ 6
  se0 : 0 < n.Sections.length
  se10 : n.Sections.length ≤ 10
  tr6 : n.Trains.length ≤ 6
  lim : ∀ s ∈ n.Stations, 0 ≤ s.Limit ∧ s.Limit ≤ 100000
  sec : ∀ s ∈ n.Sections, ZZ s n.Stations.length = 0
  tr : ∀ t ∈ n.Trains, JA t n.Sections.length = 0
theorem QGx {f : Nat → Int} {n : Nat} (h : (match Yq f n with | some i => f i | none => 0) = 0) : ∀ j, j < n → f j = 0 := by
  rcases Qac f n with ⟨h1, h2⟩ | ⟨i, h1, h2, h3, h4⟩
  · exact h2
  · rw [h1] at h; exact absurd h h3
theorem Qmz {n : FeedNet} (h : (YB n).2 = 0) : NetOk n := by
  unfold YB at h
  split at h
  · cases h
  · rename_i h1
    split at h
    · cases h
    · rename_i h2
      rcases Qac (Zv n) n.Stations.length with ⟨a1, a2⟩ | ⟨i, a1, a2, a3, _⟩
      · rw [a1] at h
        rcases Qac (Zu n) n.Sections.length with ⟨b1, b2⟩ | ⟨i, b1, b2, b3, _⟩
        · rw [b1] at h
          rcases Qac (Zb n) n.Trains.length with ⟨c1, c2⟩ | ⟨i, c1, c2, c3, _⟩
          · refine ⟨by omega, by omega, by omega, by omega, by omega, fun s hs => ?_, fun s hs => ?_, fun t ht => ?_⟩
            · obtain ⟨k, hk, rfl⟩ := List.mem_iff_getElem.1 hs
              have := a2 k hk
              rw [show Zv n k = stE n.Stations[k] ((n.Stations.take k).map (·.Name)) from JG _ _ _ hk] at this
              unfold stE at this
              split at this
              · rename_i hc; exact absurd this hc
              · cases hb : (decide (0 ≤ n.Stations[k].Limit) && decide (n.Stations[k].Limit ≤ 100000)) with
                | true => simpa using hb
                | false => rw [hb] at this; cases this
            · obtain ⟨k, hk, rfl⟩ := List.mem_iff_getElem.1 hs
              have := b2 k hk
              rwa [show Zu n k = ZZ n.Sections[k] n.Stations.length from JG _ _ _ hk] at this
            · obtain ⟨k, hk, rfl⟩ := List.mem_iff_getElem.1 ht
              have := c2 k hk
              rw [show Zb n k = J2 n.Trains[k] ((n.Trains.take k).map (·.Name)) n.Sections.length from JG _ _ _ hk] at this
              unfold J2 at this
              split at this
              · rename_i hc; exact absurd this hc
              · exact this
          · rw [c1] at h; exact absurd h c3
        · rw [b1] at h; exact absurd h b3
      · rw [a1] at h; exact absurd h a3
theorem Qbm {t : FeedTrain} {m : Nat} (h : JA t m = 0) : (0 ≤ t.Earliest ∧ t.Earliest ≤ 1000) ∧ (0 ≤ t.Latest ∧ t.Latest ≤ 1000) ∧ t.Earliest ≤ t.Latest ∧ 0 < t.Steps.length ∧ t.Steps.length ≤ 12 ∧ ∀ x ∈ t.Steps, 0 ≤ x.Section ∧ x.Section ≤ (m : Int) - 1 ∧ -20000 ≤ x.Power ∧ x.Power ≤ 20000 := by
  unfold JA Qzh at h
  cases h1 : (decide (0 ≤ t.Earliest) && decide (t.Earliest ≤ 1000)) with
  | false => rw [h1] at h; cases h
  | true =>
    cases h2 : (decide (0 ≤ t.Latest) && decide (t.Latest ≤ 1000)) with
    | false => rw [h1, h2] at h; cases h
    | true =>
      cases h3 : decide (t.Earliest ≤ t.Latest) with
      | false => rw [h1, h2, h3] at h; cases h
      | true =>
        cases h4 : decide (0 < (t.Steps.length : Int)) with
        | false => rw [h1, h2, h3, h4] at h; cases h
        | true =>
          cases h5 : decide ((t.Steps.length : Int) ≤ 12) with
          | false => rw [h1, h2, h3, h4, h5] at h; cases h
          | true =>
            rw [h1, h2, h3, h4, h5] at h
            simp only [Bool.and_self, Bool.not_true, cond_false] at h
            unfold Qiw at h
            have hz := QGx h
            simp only [Bool.and_eq_true, decide_eq_true_eq] at h1 h2 h3 h4 h5
            refine ⟨h1, h2, h3, by omega, by omega, fun x hx => ?_⟩
            obtain ⟨k, hk, rfl⟩ := List.mem_iff_getElem.1 hx
            have := hz k hk
            rw [Qmn _ _ _ hk] at this
            unfold Z0 at this
            cases a : (decide (0 ≤ t.Steps[k].Section) && decide (t.Steps[k].Section ≤ (m : Int) - 1)) with
            | false => rw [a] at this; cases this
            | true =>
              cases b : (decide (-20000 ≤ t.Steps[k].Power) && decide (t.Steps[k].Power ≤ 20000)) with
              | false => rw [a, b] at this; cases this
              | true =>
                simp only [Bool.and_eq_true, decide_eq_true_eq] at a b
                exact ⟨a.1, a.2, b.1, b.2⟩
end Go.Gw

end
section
set_option maxRecDepth 4096
namespace Go.Gw
open Go
structure LadOk (l : FeedLadder) : Prop where
  pos : 0 < l.Loads.length
  most : l.Loads.length ≤ 8
  len : l.Ohms.length = l.Loads.length + 1
  ohm : ∀ x ∈ l.Ohms, 1 ≤ x ∧ x ≤ 500
  load : ∀ x ∈ l.Loads, -20000 ≤ x ∧ x ≤ 20000
theorem Qek {a b m n : Int} (ha : -m ≤ a ∧ a ≤ m) (hb : -n ≤ b ∧ b ≤ n) : -(m * n) ≤ a * b ∧ a * b ≤ m * n := by
  have h1 : a.natAbs ≤ m.natAbs := by omega
  have h2 : b.natAbs ≤ n.natAbs := by omega
  have h3 := Nat.mul_le_mul h1 h2
  rw [← Int.natAbs_mul, ← Int.natAbs_mul] at h3
  have h4 : 0 ≤ m * n := Int.mul_nonneg (by omega) (by omega)
  omega
def pk (l : FeedLadder) (k : Nat) : Int := (l.Loads.take k).sum
def lf (l : FeedLadder) : Nat → Int
  | 0 => 0
  | k + 1 => lf l k + l.Ohms.getD k 0 * pk l k
def rk (l : FeedLadder) : Nat → Int
  | 0 => 0
  | k + 1 => rk l k + l.Loads.getD k 0 * (l.Ohms.drop (k + 1)).sum
section
variable {l : FeedLadder} (h : LadOk l)
include h
end
noncomputable def QRa (l : FeedLadder) (A L : Int) (n : Nat) : List Frac := (List.range n).map fun i => QHv (L - pk l i * A) A
section
variable {l : FeedLadder} (h : LadOk l)
include h
end
end Go.Gw

end
section
set_option maxRecDepth 4096
namespace Go.Gw
open Go
def X0 (s : FeedSection) (p : Int) : Int := if p < 0 then p * (1000 - s.Loss) else p * (1000 + s.Loss)
def X5 (s : FeedSection) (k : Int) : Int := if s.Left = k then s.Share else if s.Right = k then 1000 - s.Share else 0
def Z4 (s : FeedSection) : Prop := (0 ≤ s.Share ∧ s.Share ≤ 1000) ∧ 0 ≤ s.Loss ∧ s.Loss ≤ 500
theorem Qxh {s : FeedSection} {n : Nat} (h : ZZ s n = 0) : Z4 s := by
  unfold ZZ Qxi at h
  have key : ((decide (0 ≤ s.Share) && decide (s.Share ≤ 1000)) && (decide (0 ≤ s.Loss) && decide (s.Loss ≤ 500))) = true := by
    cases hb : ((decide (0 ≤ s.Share) && decide (s.Share ≤ 1000)) && (decide (0 ≤ s.Loss) && decide (s.Loss ≤ 500))) with
    | true => rfl
    | false =>
      rw [hb] at h
      revert h
      generalize ((!(decide (s.Left = -1) || (decide (0 ≤ s.Left) && decide (s.Left ≤ (n : Int) - 1)))) || !(decide (s.Right = -1) || (decide (0 ≤ s.Right) && decide (s.Right ≤ (n : Int) - 1)))) = a
      generalize (decide (s.Left = -1) && decide (s.Right = -1)) = b
      generalize decide (s.Left = s.Right) = c
      cases a <;> cases b <;> cases c <;> intro h <;> cases h
  simp only [Bool.and_eq_true, decide_eq_true_eq] at key
  exact ⟨key.1, key.2⟩
theorem Qgn {s : FeedSection} (hs : Z4 s) {p : Int} (hp : -160000 ≤ p ∧ p ≤ 160000) : -240000000 ≤ X0 s p ∧ X0 s p ≤ 240000000 := by
  obtain ⟨_, h1, h2⟩ := hs
  unfold X0
  split
  · have := Qek (a := p) (b := 1000 - s.Loss) (m := 160000) (n := 1500) hp (by omega); omega
  · have := Qek (a := p) (b := 1000 + s.Loss) (m := 160000) (n := 1500) hp (by omega); omega
theorem Qoa {s : FeedSection} (hs : Z4 s) (k : Int) : -1000 ≤ X5 s k ∧ X5 s k ≤ 1000 := by
  obtain ⟨h0, _⟩ := hs
  unfold X5
  split
  · omega
  · split <;> omega
theorem Qql {s : FeedSection} (hs : Z4 s) {p : Int} (hp : -160000 ≤ p ∧ p ≤ 160000) : Qbt s p = some (X0 s p) := by
  have hb := Qgn hs hp
  obtain ⟨_, h1, h2⟩ := hs
  unfold Qbt X0 at *
  by_cases h : p < 0
  · rw [if_pos h] at hb ⊢
    rw [decide_eq_true h, cond_true, XX (x := 1000 - s.Loss) (by omega), XX (by omega)]
  · rw [if_neg h] at hb ⊢
    rw [decide_eq_false h, cond_false, XX (x := 1000 + s.Loss) (by omega), XX (by omega)]
theorem QLg {s : FeedSection} (hs : Z4 s) {p : Int} (hp : -160000 ≤ p ∧ p ≤ 160000) : Qnr s p = some (X0 s p) := Qql hs hp
theorem Qwj {s : FeedSection} (hs : Z4 s) (k : Int) : Qfa s k = some (X5 s k) := by
  obtain ⟨h0, _⟩ := hs
  unfold Qfa X5
  by_cases h1 : s.Left = k
  · rw [decide_eq_true h1, if_pos h1]; rfl
  · rw [decide_eq_false h1, if_neg h1]
    by_cases h2 : s.Right = k
    · rw [decide_eq_true h2, if_pos h2]
      simp only [cond_false, cond_true]
      rw [XX (by omega)]
    · rw [decide_eq_false h2, if_neg h2]; rfl
theorem QCm {s : FeedSection} (hs : Z4 s) (k : Int) : Qbu s k = some (X5 s k) := by
  rw [← Qwj hs k]
  unfold Qbu Qfa
  rw [show decide (k = s.Left) = decide (s.Left = k) from decide_eq_decide.2 eq_comm, show decide (k = s.Right) = decide (s.Right = k) from decide_eq_decide.2 eq_comm]
end Go.Gw

end
section
set_option maxRecDepth 4096
namespace Go.Gw
open Go
def Zh (secs : List FeedSection) (f : Nat → Int) (k : Nat) : Nat → Int
  | 0 => 0
  | j + 1 => Zh secs f k j + (secs[j]?.map fun s => X0 s (f j) * X5 s (k : Int)).getD 0
section
variable {secs : List FeedSection} {f : Nat → Int} (hs : ∀ s ∈ secs, Z4 s) (hf : ∀ j, -160000 ≤ f j ∧ f j ≤ 160000)
include hs hf
theorem QPh (k j : Nat) : -240000000000 ≤ (secs[j]?.map fun s => X0 s (f j) * X5 s (k : Int)).getD 0 ∧ (secs[j]?.map fun s => X0 s (f j) * X5 s (k : Int)).getD 0 ≤ 240000000000 := by
  by_cases hj : j < secs.length
  · rw [List.getElem?_eq_getElem hj]
    have h1 := hs _ (List.getElem_mem hj)
    have := Qek (Qgn h1 (hf j)) (Qoa h1 (k : Int))
    simp only [Option.map_some, Option.getD_some]
    omega
  · rw [List.getElem?_eq_none (Nat.le_of_not_lt hj)]; simp
theorem Qmu (k : Nat) : ∀ j : Nat, -(240000000000 * (j : Int)) ≤ Zh secs f k j ∧ Zh secs f k j ≤ 240000000000 * (j : Int)
  | 0 => by simp [Zh]
  | j + 1 => by
    have h1 := Qmu k j
    have h2 := QPh hs hf k j
    simp only [Zh]
    omega
end
theorem Qtw {secs : List FeedSection} {f : Nat → Int} {k j : Nat} (hj : j < secs.length) : (secs[j]?.map fun s => X0 s (f j) * X5 s (k : Int)).getD 0 = X0 secs[j] (f j) * X5 secs[j] (k : Int) := by
  rw [List.getElem?_eq_getElem hj]; rfl
theorem Qwk (m j : Nat) (hj : j < m) (f g : Nat → Int) : ((List.range m).map fun i => if i < j then g i else f i).set j (g j) = (List.range m).map fun i => if i < j + 1 then g i else f i := by
  apply List.ext_getElem?
  intro i
  by_cases hi : i = j
  · subst hi
    rw [List.getElem?_set_self (by simpa using hj)]
    simp [hj]
  · rw [List.getElem?_set_ne (Ne.symm hi)]
    by_cases him : i < m
    · simp only [List.getElem?_map, List.getElem?_range him, Option.map_some, Option.some.injEq]
      by_cases h1 : i < j
      · rw [if_pos h1, if_pos (by omega)]
      · rw [if_neg h1, if_neg (by omega)]
    · simp [him]
theorem Qtz (m j : Nat) (hj : j < m) (f g : Nat → Int) : idx ((List.range m).map fun i => if i < j then g i else f i) (j : Int) = some (f j) := by
  rw [Xs?]
  simp [hj]
theorem QCn {s : FeedSection} (hs : Z4 s) {p : Int} (hp : -160000 ≤ p ∧ p ≤ 160000) {m : Nat} (hm : m < 1000) {f : Nat → Int} (hf : ∀ i, -1000000000000000 ≤ f i ∧ f i ≤ 1000000000000000) :
    loop (Qbx p s ((List.range m).map f)) ((List.range m).map f, 0) = some ((List.range m).map fun i => f i + X0 s p * X5 s (i : Int)) := by
  have e0 : ((List.range m).map fun i => if i < 0 then f i + X0 s p * X5 s (i : Int) else f i) = (List.range m).map f := by
    apply List.map_congr_left; intro i _; simp
  have eN : ((List.range m).map fun i => if i < m then f i + X0 s p * X5 s (i : Int) else f i) = (List.range m).map fun i => f i + X0 s p * X5 s (i : Int) := by
    apply List.map_congr_left; intro i hi; rw [if_pos (List.mem_range.1 hi)]
  have hlen : (((List.range m).map f).length : Int) = (m : Int) := by simp
  have key := YU (step := Qbx p s ((List.range m).map f)) (o := (List.range m).map fun i => f i + X0 s p * X5 s (i : Int)) (fun j => ((List.range m).map fun i => if i < j then f i + X0 s p * X5 s (i : Int) else f i, (j : Int))) m (fun j hj => by
    have hb := Qek (Qgn hs hp) (Qoa hs (j : Int))
    have hfj := hf j
    unfold Qbx
    simp only [hlen, XL hj, cond_true, Qtz m j hj f (fun i => f i + X0 s p * X5 s (i : Int)), Qw]
    rw [Qql hs hp, Qw, QCm hs, Qw, XX (x := X0 s p * X5 s (j : Int)) (by omega), XX (x := f j + X0 s p * X5 s (j : Int)) (by omega), XP j (by omega)]
    simp only [Int.toNat_natCast]
    rw [Qwk m j hj f (fun i => f i + X0 s p * X5 s (i : Int))]) (by
    unfold Qbx
    simp only [hlen, XM, cond_false, eN])
  simp only [e0] at key
  exact key
def Y0 (n : FeedNet) (f : Nat → Int) : List Int := (List.range n.Stations.length).map fun k => Zh n.Sections f k n.Sections.length
theorem QCp {n : FeedNet} (hn : NetOk n) {l : List feed_run} (hl : l.length ≤ 8) (h : ∀ r ∈ l, Z3 n.Sections.length r) {t : Int} (ht : 0 ≤ t) (ht2 : t ≤ 100000) : Qby ⟨n⟩ l t = some (Y0 n (XG l t)) := by
  have h1 := hn.st6
  have h2 := hn.se10
  have hs : ∀ s ∈ n.Sections, Z4 s := fun s hx => Qxh (hn.sec s hx)
  have hf : ∀ j, -160000 ≤ XG l t j ∧ XG l t j ≤ 160000 := fun j => by have := Qnk h t j; omega
  have hlen : (((List.range n.Sections.length).map (XG l t)).length : Int) = (n.Sections.length : Int) := by simp
  have key : loop (Qdu ⟨n⟩ ((List.range n.Sections.length).map (XG l t))) ((List.range n.Stations.length).map (fun _ => (0 : Int)), 0) = some (Y0 n (XG l t)) :=
    YU (fun j => ((List.range n.Stations.length).map (fun k => Zh n.Sections (XG l t) k j), (j : Int))) n.Sections.length (fun j hj => by
      have hb : ∀ k, -1000000000000000 ≤ Zh n.Sections (XG l t) k j ∧ Zh n.Sections (XG l t) k j ≤ 1000000000000000 := fun k => by have := Qmu hs hf k j; omega
      have hidx : idx ((List.range n.Sections.length).map (XG l t)) (j : Int) = some (XG l t j) := by rw [Xs?]; simp [hj]
      unfold Qdu
      simp only [hlen, XL hj, cond_true, hidx, Qw, Xs hj]
      rw [QCn (hs _ (List.getElem_mem hj)) (hf j) (by omega) hb, Qw, XP j (by omega)]
      congr 3
      apply List.map_congr_left
      intro k _
      simp only [Zh, Qtw hj]) (by
      unfold Qdu Y0
      simp only [hlen, XM, cond_false])
  unfold Qby
  show (Option.bind (mk (n.Stations.length : Int) (0 : Int)) _) = _
  rw [Qmx _ (by omega), Qw, QKy (by omega) hl h ht ht2, Qw, key]
  rfl
theorem QLh {s : FeedSection} (hs : Z4 s) {p : Int} (hp : -160000 ≤ p ∧ p ≤ 160000) {m : Nat} (hm : m < 1000) {f : Nat → Int} (hf : ∀ i, -1000000000000000 ≤ f i ∧ f i ≤ 1000000000000000) :
    loop (Qev s (X0 s p)) ((List.range m).map f, 0) = some ((List.range m).map fun i => f i + X0 s p * X5 s (i : Int)) := by
  have e0 : ((List.range m).map fun i => if i < 0 then f i + X0 s p * X5 s (i : Int) else f i) = (List.range m).map f := by
    apply List.map_congr_left; intro i _; simp
  have eN : ((List.range m).map fun i => if i < m then f i + X0 s p * X5 s (i : Int) else f i) = (List.range m).map fun i => f i + X0 s p * X5 s (i : Int) := by
    apply List.map_congr_left; intro i hi; rw [if_pos (List.mem_range.1 hi)]
  have key := YU (step := Qev s (X0 s p)) (o := (List.range m).map fun i => f i + X0 s p * X5 s (i : Int)) (fun j => ((List.range m).map fun i => if i < j then f i + X0 s p * X5 s (i : Int) else f i, (j : Int))) m (fun j hj => by
    have hb := Qek (Qgn hs hp) (Qoa hs (j : Int))
    have hfj := hf j
    have hlen : (((List.range m).map fun i => if i < j then f i + X0 s p * X5 s (i : Int) else f i).length : Int) = (m : Int) := by simp
    unfold Qev
    simp only [hlen, XL hj, cond_true, Qtz m j hj f (fun i => f i + X0 s p * X5 s (i : Int)), Qw]
    rw [Qwj hs, Qw, XX (x := X0 s p * X5 s (j : Int)) (by omega), XX (x := f j + X0 s p * X5 s (j : Int)) (by omega), XP j (by omega)]
    simp only [Int.toNat_natCast]
    rw [Qwk m j hj f (fun i => f i + X0 s p * X5 s (i : Int))]) (by
    have hlen : (((List.range m).map fun i => f i + X0 s p * X5 s (i : Int)).length : Int) = (m : Int) := by simp
    unfold Qev
    simp only [eN, hlen, XM, cond_false])
  simp only [e0] at key
  exact key
theorem QLj {n : FeedNet} (hn : NetOk n) {l : List FeedDeparture} {t : Int} {f : Nat → Int} (hf : ∀ j, -160000 ≤ f j ∧ f j ≤ 160000) (hp : ∀ j : Nat, j < n.Sections.length → Qez n l (j : Int) t = some (f j)) : Qew n l t = some (Y0 n f) := by
  have h1 := hn.st6
  have h2 := hn.se10
  have hs : ∀ s ∈ n.Sections, Z4 s := fun s hx => Qxh (hn.sec s hx)
  have key : loop (Qia l n t) ((List.range n.Stations.length).map (fun _ => (0 : Int)), 0) = some (Y0 n f) :=
    YU (fun j => ((List.range n.Stations.length).map (fun k => Zh n.Sections f k j), (j : Int))) n.Sections.length (fun j hj => by
      have hb : ∀ k, -1000000000000000 ≤ Zh n.Sections f k j ∧ Zh n.Sections f k j ≤ 1000000000000000 := fun k => by have := Qmu hs hf k j; omega
      unfold Qia
      simp only [XL hj, cond_true, Xs hj, Qw, hp j hj]
      rw [QLg (hs _ (List.getElem_mem hj)) (hf j), Qw, QLh (hs _ (List.getElem_mem hj)) (hf j) (by omega) hb, Qw, XP j (by omega)]
      congr 3
      apply List.map_congr_left
      intro k _
      simp only [Zh, Qtw hj]) (by
      unfold Qia Y0
      simp only [XM, cond_false])
  unfold Qew
  rw [Qmx _ (by omega), Qw, key]
  rfl
end Go.Gw

end
section
set_option maxRecDepth 4096
namespace Go.Gw
open Go
def pd (t : Int) (s : Nat) (r : feed_run) : List Int := if 0 ≤ t - r.at_ ∧ t - r.at_ ≤ (r.FeedTrain.Steps.length : Int) - 1 then (match r.FeedTrain.Steps[(t - r.at_).toNat]? with | some x => if x.Section = (s : Int) then [x.Power] else [] | none => []) else []
theorem QKx (t : Int) (s : Nat) (r : feed_run) : (pd t s r).sum = Jc r.FeedTrain.Steps (t - r.at_) s := by
  unfold pd Jc
  by_cases h : 0 ≤ t - r.at_ ∧ t - r.at_ ≤ (r.FeedTrain.Steps.length : Int) - 1
  · rw [if_pos h, if_pos h]
    cases hx : r.FeedTrain.Steps[(t - r.at_).toNat]? with
    | none => rfl
    | some x => by_cases hs : x.Section = (s : Int) <;> simp [hs]
  · rw [if_neg h, if_neg h]; rfl
theorem QKv (t : Int) (s : Nat) (r : feed_run) : (pd t s r).length ≤ 1 := by
  unfold pd
  split
  · split
    · split <;> simp
    · simp
  · simp
theorem QKw {m : Nat} {r : feed_run} (h : Z3 m r) (t : Int) (s : Nat) : ∀ x ∈ pd t s r, -20000 ≤ x ∧ x ≤ 20000 := by
  intro x hx
  unfold pd at hx
  split at hx
  · split at hx
    · rename_i y hy
      split at hx
      · obtain rfl := List.mem_singleton.1 hx
        have := h.1 y (List.mem_of_getElem? hy); omega
      · cases hx
    · cases hx
  · cases hx
theorem Qts (t : Int) (s : Nat) : ∀ l : List feed_run, (l.flatMap (pd t s)).sum = XG l t s
  | [] => rfl
  | r :: l => by
    rw [List.flatMap_cons, List.sum_append, Qts t s l, QKx]
    simp [XG]
theorem Qmj (t : Int) (s : Nat) : ∀ l : List feed_run, (l.flatMap (pd t s)).length ≤ l.length
  | [] => by simp
  | r :: l => by
    rw [List.flatMap_cons, List.length_append]
    have := Qmj t s l
    have := QKv t s r
    rw [List.length_cons]; omega
theorem QLm {n : FeedNet} (hn : n.Trains.length < 1000) {l : List FeedDeparture} (hl : l.length ≤ 8) {m : Nat} (h0 : ∀ d ∈ l, 0 ≤ Y3 n d.Train) (h : ∀ d ∈ l, Z3 m (Q4 n d)) {t : Int} (ht : 0 ≤ t) (ht2 : t ≤ 100000) (s : Nat) :
    Qez n l (s : Int) t = some (XG (l.map (Q4 n)) t s) := by
  have key : loop (Qih l n (s : Int) t) (([] : List Int), 0) = some ((l.map (Q4 n)).flatMap (pd t s)) :=
    YU (fun k => (((l.take k).map (Q4 n)).flatMap (pd t s), (k : Int))) l.length (fun k hk => by
      have hd := List.getElem_mem hk
      obtain ⟨T, h1, h2, h3⟩ := Qzg (h0 _ hd)
      have hr := h _ hd
      have hrun : Q4 n l[k] = feed_run.mk T l[k].At := by unfold Q4; rw [h1]; rfl
      obtain ⟨r1, r2, r3, r4⟩ := hr
      rw [hrun] at r1 r2 r3 r4
      have hidx : idx n.Trains (Y3 n l[k].Train) = some T := by unfold idx; rw [if_pos (h0 _ hd)]; exact h1
      have hlen := Qmj t s ((l.take k).map (Q4 n))
      have hnext : ((l.take k).map (Q4 n)).flatMap (pd t s) ++ pd t s (Q4 n l[k]) = ((l.take (k + 1)).map (Q4 n)).flatMap (pd t s) := by
        rw [← Qiy l (Q4 n) k hk, List.flatMap_append]; simp
      have hlk : ((l.take k).map (Q4 n)).length ≤ 8 := by simp; omega
      unfold Qih
      simp only [XL hk, cond_true, Xs hk, Qw]
      rw [Qnm n _ (by omega), Qw, hidx, Qw, Qw]
      simp only []
      simp only at r2 r3 r4
      rw [XX (x := t - l[k].At) (by omega), XX (x := (T.Steps.length : Int) - 1) (by omega), Qdi, Qw, XP k (by omega), ← hnext, hrun]
      unfold pd
      by_cases hin : 0 ≤ t - l[k].At ∧ t - l[k].At ≤ (T.Steps.length : Int) - 1
      · have hk2 : (t - l[k].At).toNat < T.Steps.length := by omega
        have hi2 : idx T.Steps (t - l[k].At) = some T.Steps[(t - l[k].At).toNat] := by unfold idx; rw [if_pos hin.1, List.getElem?_eq_getElem hk2]
        rw [decide_eq_true hin.1, decide_eq_true hin.2, if_pos hin, List.getElem?_eq_getElem hk2]
        simp only [Bool.and_self, cond_true, Bool.true_and, hi2, Qw]
        by_cases hsec : T.Steps[(t - l[k].At).toNat].Section = (s : Int)
        · rw [decide_eq_true hsec, if_pos hsec, cond_true, ZP (by show (((l.take k).map (Q4 n)).flatMap (pd t s)).length + 1 ≤ 1073741824; omega), Qw]
        · rw [decide_eq_false hsec, if_neg hsec, cond_false, List.append_nil]
      · have e : (decide (0 ≤ t - l[k].At) && decide (t - l[k].At ≤ (T.Steps.length : Int) - 1)) = false := by
          rw [Bool.eq_false_iff]; intro e; simp only [Bool.and_eq_true, decide_eq_true_eq] at e; exact hin e
        rw [e, if_neg hin]
        simp only [cond_false, Qw, Bool.false_and, List.append_nil]) (by
      unfold Qih
      simp only [XM, cond_false, List.take_length])
  unfold Qez Qnt
  rw [key, Qw, Qw, QOl (c := 20000) (by omega) (by omega) (fun x hx => ?_) (by have := Qmj t s (l.map (Q4 n)); rw [List.length_map] at this; omega), Qw, Qts]
  obtain ⟨r, hr, hx⟩ := List.mem_flatMap.1 hx
  obtain ⟨d, hd, rfl⟩ := List.mem_map.1 hr
  exact QKw (h d hd) t s x hx
end Go.Gw

end
section
set_option maxRecDepth 4096
namespace Go.Gw
open Go
theorem Qqj {α : Type} [DecidableEq α] : ∀ (a b : List α) (hl : a.length = b.length) (k : Nat), (jn0 (XH (fun (x : α × α) => !decide (x.1 = x.2)) (fun _ _ => false) k (a.zip b)) fun (_ : Unit) => some true) = some (decide (a = b))
  | [], [], _, k => by simp [XH, jn0]
  | [], _ :: _, hl, _ => by simp at hl
  | _ :: _, [], hl, _ => by simp at hl
  | x :: a, y :: b, hl, k => by
    by_cases hxy : x = y
    · subst hxy
      have := Qqj a b (by simpa using hl) (k + 1)
      simp only [List.zip_cons_cons, XH]
      simpa using this
    · simp [XH, hxy, jn0]
theorem Qzv {α : Type} {a b : List α} (hl : a.length = b.length) : (a.zip b).length = a.length := by simp [hl]
noncomputable def Qqc (f : Frac) : Int := if 0 < f.Den ∧ Qph f.Num f.Den = some 1 then (if -1000000000 ≤ f.Num ∧ f.Num ≤ 1000000000 ∧ f.Den ≤ 1000000000 then 0 else 2) else 3
noncomputable def QBp : List Frac → Int
  | [] => 0
  | f :: l => if Qqc f = 0 then QBp l else Qqc f
end Go.Gw

end
section
set_option maxRecDepth 4096
namespace Go.Gw
open Go
def QBs (n : FeedNet) (l : List FeedDeparture) : Int := if 6 < l.length then 8 else match Yq (Qqd n l) l.length with | some i => Qqd n l i | none => 0
def QQz (n : FeedNet) (l : List FeedDeparture) : Int := if (YB n).2 ≠ 0 then (YB n).2 else QBs n l
def QRg (n : FeedNet) (s : Int) : Int := if 0 ≤ s ∧ s ≤ (n.Sections.length : Int) - 1 then 0 else 6
def QRj (t : Int) : Int := if 0 ≤ t ∧ t ≤ 1012 then 0 else 2
end Go.Gw

end
section
set_option maxRecDepth 4096
namespace Go.Gw
open Go
def QRi (n : FeedNet) (s : Int) : Int := if 0 ≤ s ∧ s ≤ (n.Stations.length : Int) - 1 then 0 else 6
def onI (r : feed_run) (t : Int) : Bool := decide (0 ≤ t - r.at_) && decide (t - r.at_ ≤ (r.FeedTrain.Steps.length : Int) - 1)
def Qmt (n : FeedNet) (l : List FeedDeparture) (t : Int) (s : Nat) : Int := Zh n.Sections (XG (l.map (Q4 n)) t) s n.Sections.length
structure Rt (n : FeedNet) (l : List FeedDeparture) : Prop where
  ne : NetOk n
  tr : n.Trains.length < 1000
  l6 : l.length ≤ 6
  ru : ∀ d ∈ l, Z3 n.Sections.length (Q4 n d) ∧ 0 ≤ Y3 n d.Train
section
variable {n : FeedNet} {l : List FeedDeparture} (h : Rt n l)
include h
theorem Qnw : ∀ r ∈ l.map (Q4 n), Z3 n.Sections.length r := fun r hr => by obtain ⟨d, hd2, rfl⟩ := List.mem_map.1 hr; exact (h.ru d hd2).1
theorem QLi {t : Int} (ht : 0 ≤ t) (ht2 : t ≤ 100000) : Qew n l t = some (Y0 n (XG (l.map (Q4 n)) t)) :=
  QLj h.ne (fun j => by have := Qnk (Qnw h) t j; rw [List.length_map] at this; have := h.l6; omega) (fun j _ => QLm h.tr (by have := h.l6; omega) (fun d hd => (h.ru d hd).2) (fun d hd => (h.ru d hd).1) ht ht2 j)
def pkF (n : FeedNet) (l : List FeedDeparture) (s : Nat) (k : Nat) (a : Int × Int) : Int × Int := if a.2 < Qmt n l ((k : Int) + 1) s then ((k : Int) + 1, Qmt n l ((k : Int) + 1) s) else a
def QRe (n : FeedNet) (l : List FeedDeparture) (s : Nat) : Int × Int := rng (pkF n l s) (0, Qmt n l 0 s) 1012
end
end Go.Gw

end
section
set_option maxRecDepth 4096
namespace Go.Gw
open Go
def fsO {α ρ μ : Type} (o : Option α) (res : α → ρ) (u : μ) : ρ ⊕ μ := match o with | some a => .inl (res a) | none => .inr u
theorem Qhg {α σ ρ μ : Type} {step : σ → Option (σ ⊕ (ρ ⊕ μ))} (S : Nat → σ) (n : Nat) (f : Nat → Option α) (res : α → ρ) (o : μ)
    (hs : ∀ k, k < n → step (S k) = some (match f k with | some a => .inr (.inl (res a)) | none => .inl (S (k + 1))))
    (he : step (S n) = some (.inr (.inr o))) : loop step (S 0) = some (fsO ((List.range n).findSome? f) res o) := by
  have key : ∀ j k, k + j = n → loop step (S k) = some (fsO ((List.range' k j).findSome? f) res o) := by
    intro j
    induction j with
    | zero => intro k hk; obtain rfl : k = n := by omega
              exact Ju he
    | succ j ih =>
      intro k hk
      have h1 := hs k (by omega)
      rw [List.range'_succ, List.findSome?_cons]
      cases hf : f k with
      | some a => rw [hf] at h1; exact Ju h1
      | none => rw [hf] at h1; rw [Qcj h1]; exact ih (k + 1) (by omega)
  rw [List.range_eq_range']
  exact key n 0 (by omega)
theorem Qbb {α β : Type} (f : β → α → β) (a : β) (l : List α) (k : Nat) (hk : k < l.length) : (l.take (k + 1)).foldl f a = f ((l.take k).foldl f a) l[k] := by
  rw [List.take_add_one, List.getElem?_eq_getElem hk, List.foldl_append]; rfl
def loF (a : Int) (r : feed_run) : Int := if r.at_ < a then r.at_ else a
def hiF (a : Int) (r : feed_run) : Int := if a < r.at_ + 12 then r.at_ + 12 else a
def YK (rs : List feed_run) : Int := rs.foldl loF 1012
def ZD (rs : List feed_run) : Int := rs.foldl hiF 0
def Qej (n : FeedNet) (k : Nat) : Int := (n.Stations[k]?.map (·.Limit)).getD 0
def ldR (n : FeedNet) (rs : List feed_run) (t : Int) (k : Nat) : Int := Zh n.Sections (XG rs t) k n.Sections.length
def ov1 (n : FeedNet) (rs : List feed_run) (t : Int) (k : Nat) : Option FeedPeak := if 1000000 * Qej n k < ldR n rs t k then some (FeedPeak.mk t k (ldR n rs t k)) else none
def ZW (n : FeedNet) (rs : List feed_run) (t : Int) : Option FeedPeak := (List.range n.Stations.length).findSome? (ov1 n rs t)
def Zj (n : FeedNet) (rs : List feed_run) : Option FeedPeak := (List.range (ZD rs - YK rs + 1).toNat).findSome? fun (j : Nat) => ZW n rs (YK rs + j)
def pkB (o : Option FeedPeak) : FeedPeak × Bool := match o with | some p => (p, true) | none => (FeedPeak.mk 0 0 0, false)
theorem Quo {rs : List feed_run} (h : ∀ r ∈ rs, 0 ≤ r.at_ ∧ r.at_ ≤ 1000) : 0 ≤ YK rs ∧ YK rs ≤ 1012 := by
  have key : ∀ (l : List feed_run) a, (∀ r ∈ l, 0 ≤ r.at_ ∧ r.at_ ≤ 1000) → 0 ≤ a ∧ a ≤ 1012 → 0 ≤ l.foldl loF a ∧ l.foldl loF a ≤ 1012 := by
    intro l
    induction l with
    | nil => intro a _ h; exact h
    | cons r l ih =>
      intro a hr ha
      have := hr r (List.mem_cons_self ..)
      exact ih _ (fun x hx => hr x (List.mem_cons_of_mem _ hx)) (by unfold loF; split <;> omega)
  exact key rs 1012 h (by omega)
theorem Qtx {rs : List feed_run} (h : ∀ r ∈ rs, 0 ≤ r.at_ ∧ r.at_ ≤ 1000) : 0 ≤ ZD rs ∧ ZD rs ≤ 1012 := by
  have key : ∀ (l : List feed_run) a, (∀ r ∈ l, 0 ≤ r.at_ ∧ r.at_ ≤ 1000) → 0 ≤ a ∧ a ≤ 1012 → 0 ≤ l.foldl hiF a ∧ l.foldl hiF a ≤ 1012 := by
    intro l
    induction l with
    | nil => intro a _ h; exact h
    | cons r l ih =>
      intro a hr ha
      have := hr r (List.mem_cons_self ..)
      exact ih _ (fun x hx => hr x (List.mem_cons_of_mem _ hx)) (by unfold hiF; split <;> omega)
  exact key rs 0 h (by omega)
theorem Qgl (x y : Int) : Qaa x y = some (if x < y then -1 else if y < x then 1 else 0) := by
  unfold Qaa Qdl
  simp only [decide_true, Bool.not_true, Qw, cond_false]
  by_cases h1 : x < y
  · simp [h1]
  · by_cases h2 : y < x <;> simp [h1, h2]
def mnF (a r : feed_run) : feed_run := if r.at_ < a.at_ then r else a
def Jv (a r : feed_run) : feed_run := if a.at_ < r.at_ then r else a
def JF (r : feed_run) : ByteArray × Int × Int × List FeedStep × Int := (r.FeedTrain.Name, r.FeedTrain.Earliest, r.FeedTrain.Latest, r.FeedTrain.Steps, r.at_)
theorem QIf (r0 : feed_run) (l : List feed_run) (hl : l.length < 1000000) : Qfi (r0 :: l) = some (l.foldl mnF r0) := by
  have key : loop (Qfh (r0 :: l)) (1, JF r0) = some (JF (l.foldl mnF r0)) :=
    YU (fun k => ((k : Int) + 1, JF ((l.take k).foldl mnF r0))) l.length (fun k hk => by
      unfold Qfh Qbz JF
      have hi : idx (r0 :: l) ((k : Int) + 1) = some l[k] := by
        rw [show (k : Int) + 1 = ((k + 1 : Nat) : Int) by omega, Xs (show k + 1 < (r0 :: l).length by simpa using hk)]; rfl
      simp only [hi, Qw, Qgl, Qbb _ _ _ _ hk]
      rw [decide_eq_true (by simp; omega), cond_true, XX (x := (k : Int) + 1 + 1) (by omega)]
      generalize List.foldl mnF r0 (List.take k l) = a
      unfold mnF
      by_cases h1 : l[k].at_ < a.at_
      · simp [h1]
      · by_cases h2 : a.at_ < l[k].at_ <;> simp [h1, h2]) (by
      unfold Qfh
      rw [List.take_length]
      unfold JF
      simp)
  unfold Qfi
  rw [decide_eq_false (show ¬ (((r0 :: l).length : Nat) : Int) < 1 by simp; omega), cond_false, Qw, show idx (r0 :: l) 0 = some r0 from rfl, Qw]
  exact (congrArg (fun o => Option.bind o _) key).trans rfl
theorem QIa (r0 : feed_run) (l : List feed_run) (hl : l.length < 1000000) : Qfg (r0 :: l) = some (l.foldl Jv r0) := by
  have key : loop (Qff (r0 :: l)) (1, JF r0) = some (JF (l.foldl Jv r0)) :=
    YU (fun k => ((k : Int) + 1, JF ((l.take k).foldl Jv r0))) l.length (fun k hk => by
      unfold Qff Qbz JF
      have hi : idx (r0 :: l) ((k : Int) + 1) = some l[k] := by
        rw [show (k : Int) + 1 = ((k + 1 : Nat) : Int) by omega, Xs (show k + 1 < (r0 :: l).length by simpa using hk)]; rfl
      simp only [hi, Qw, Qgl, Qbb _ _ _ _ hk]
      rw [decide_eq_true (by simp; omega), cond_true, XX (x := (k : Int) + 1 + 1) (by omega)]
      generalize List.foldl Jv r0 (List.take k l) = a
      unfold Jv
      by_cases h1 : l[k].at_ < a.at_
      · have h2 : ¬ a.at_ < l[k].at_ := by omega
        simp [h1, h2]
      · by_cases h2 : a.at_ < l[k].at_ <;> simp [h1, h2]) (by
      unfold Qff
      rw [List.take_length]
      unfold JF
      simp)
  unfold Qfg
  rw [decide_eq_false (show ¬ (((r0 :: l).length : Nat) : Int) < 1 by simp; omega), cond_false, Qw, show idx (r0 :: l) 0 = some r0 from rfl, Qw]
  exact (congrArg (fun o => Option.bind o _) key).trans rfl
theorem QIh (r0 : feed_run) (l : List feed_run) : (l.foldl mnF r0).at_ = l.foldl loF r0.at_ := by
  induction l generalizing r0 with
  | nil => rfl
  | cons r l ih => rw [List.foldl_cons, List.foldl_cons, ih]; congr 1; unfold mnF loF; split <;> rfl
theorem QIi (r0 : feed_run) (l : List feed_run) : (l.foldl Jv r0).at_ + 12 = l.foldl hiF (r0.at_ + 12) := by
  induction l generalizing r0 with
  | nil => rfl
  | cons r l ih => rw [List.foldl_cons, List.foldl_cons, ih]; congr 1; unfold Jv hiF; split <;> split <;> first | rfl | omega
section
variable {n : FeedNet} {rs : List feed_run} (hn : NetOk n) (hl : rs.length ≤ 8) (h : ∀ r ∈ rs, Z3 n.Sections.length r)
include hn
theorem Qun {k : Nat} (hk : k < n.Stations.length) : w64 (1000000 * n.Stations[k].Limit) = 1000000 * Qej n k := by
  have := hn.lim _ (List.getElem_mem hk)
  unfold Qej
  rw [XX (by omega), List.getElem?_eq_getElem hk]; rfl
include hl h
theorem QCq {t : Int} (ht : 0 ≤ t) (ht2 : t ≤ 1012) {R : feed_run} (hR : t ≤ R.at_ + 12) (hR2 : R.at_ ≤ 100000) (hR3 : -100000 ≤ R.at_): Qcb rs ⟨n⟩ R t = some (match ZW n rs t with | some p => .inr (.inl (p, true)) | none => .inl (t + 1)) := by
  have hlen : ((Y0 n (XG rs t)).length : Int) = (n.Stations.length : Int) := by unfold Y0; simp
  have hst := hn.st6
  have key : loop (Qca ⟨n⟩ (Y0 n (XG rs t)) t) 0 = some (fsO (ZW n rs t) (fun p => .inr (.inl (p, true))) ()) :=
    Qhg (ρ := Int ⊕ ((FeedPeak × Bool) ⊕ Unit)) (step := Qca ⟨n⟩ (Y0 n (XG rs t)) t) (fun k => (k : Int)) n.Stations.length (ov1 n rs t) (fun p => .inr (.inl (p, true))) () (fun k hk => by
      have hi : idx (Y0 n (XG rs t)) (k : Int) = some (ldR n rs t k) := by
        unfold Y0; rw [Xs?, List.getElem?_map, List.getElem?_range hk]; rfl
      unfold Qca ov1
      rw [hlen, XL hk, cond_true, hi, Qw]
      simp only [Xs hk, Qw]
      rw [Qun hn hk, XP k (by omega)]
      by_cases hc : 1000000 * Qej n k < ldR n rs t k
      · rw [decide_eq_true hc, if_pos hc]; rfl
      · rw [decide_eq_false hc, if_neg hc]; rfl) (by
      unfold Qca
      rw [hlen, XM]; rfl)
  unfold Qcb
  rw [XX (x := R.at_ + 12) (by omega), decide_eq_true hR, cond_true, QCp hn hl h ht (by omega), Qw, key, Qw, XX (x := t + 1) (by omega)]
  cases ZW n rs t <;> rfl
theorem QCr : Qav ⟨n⟩ rs = some (pkB (Zj n rs)) := by
  cases rs with
  | nil => simp [Qav, Zj, ZD, YK, pkB]
  | cons r0 l =>
    have hat : ∀ r ∈ r0 :: l, 0 ≤ r.at_ ∧ r.at_ ≤ 1000 := fun r hr => ⟨(h r hr).2.2.1, (h r hr).2.2.2⟩
    have h0 := hat r0 (List.mem_cons_self ..)
    have hlo : (l.foldl mnF r0).at_ = YK (r0 :: l) := by
      rw [QIh]; unfold YK; rw [List.foldl_cons]; congr 1; unfold loF; split <;> omega
    have hhi : (l.foldl Jv r0).at_ + 12 = ZD (r0 :: l) := by
      rw [QIi]; unfold ZD; rw [List.foldl_cons]; congr 1; unfold hiF; split <;> omega
    have b1 := Quo hat
    have b2 := Qtx hat
    have hlen : l.length < 1000000 := by rw [List.length_cons] at hl; omega
    have key := Qhg (step := Qcb (r0 :: l) ⟨n⟩ (l.foldl Jv r0)) (fun k => YK (r0 :: l) + (k : Int)) (ZD (r0 :: l) - YK (r0 :: l) + 1).toNat (fun (j : Nat) => ZW n (r0 :: l) (YK (r0 :: l) + j)) (fun p => (p, true)) () (fun k hk => by
      have hk2 : YK (r0 :: l) + (k : Int) ≤ ZD (r0 :: l) := by omega
      rw [QCq hn hl h (R := l.foldl Jv r0) (by omega) (by omega) (by omega) (by omega) (by omega)]
      cases ZW n (r0 :: l) (YK (r0 :: l) + (k : Int)) with
      | some p => rfl
      | none => simp only; congr 2; omega) (by
      unfold Qcb
      rw [XX (x := (l.foldl Jv r0).at_ + 12) (by omega), decide_eq_false (by omega)]; rfl)
    unfold Qav
    rw [decide_eq_false (show ¬ ((((r0 :: l).length : Nat) : Int) = 0) by simp; omega), cond_false, QIf r0 l hlen, Qw, QIa r0 l hlen, Qw, hlo]
    simp only [Int.natCast_zero, Int.add_zero] at key
    rw [key, Qw]
    unfold Zj
    cases (List.range (ZD (r0 :: l) - YK (r0 :: l) + 1).toNat).findSome? (fun (j : Nat) => ZW n (r0 :: l) (YK (r0 :: l) + j)) <;> rfl
end
section
variable {n : FeedNet} {l : List FeedDeparture} (h : Rt n l)
include h
theorem QLk {t hi : Int} (ht : 0 ≤ t) (ht2 : t ≤ 1012) (hh : t ≤ hi) : Qet n l hi t = some (match ZW n (l.map (Q4 n)) t with | some p => .inr (.inl (p, true)) | none => .inl (t + 1)) := by
  have hlen : ((Y0 n (XG (l.map (Q4 n)) t)).length : Int) = (n.Stations.length : Int) := by unfold Y0; simp
  have hst := h.ne.st6
  have key : loop (Qes n (Y0 n (XG (l.map (Q4 n)) t)) t) 0 = some (fsO (ZW n (l.map (Q4 n)) t) (fun p => .inr (.inl (p, true))) ()) :=
    Qhg (ρ := Int ⊕ ((FeedPeak × Bool) ⊕ Unit)) (step := Qes n (Y0 n (XG (l.map (Q4 n)) t)) t) (fun k => (k : Int)) n.Stations.length (ov1 n (l.map (Q4 n)) t) (fun p => .inr (.inl (p, true))) () (fun k hk => by
      have hi : idx (Y0 n (XG (l.map (Q4 n)) t)) (k : Int) = some (ldR n (l.map (Q4 n)) t k) := by
        unfold Y0; rw [Xs?, List.getElem?_map, List.getElem?_range hk]; rfl
      unfold Qes ov1
      rw [hlen, XL hk, cond_true, hi, Qw]
      simp only [Xs hk, Qw]
      rw [Qun h.ne hk, XP k (by omega)]
      by_cases hc : 1000000 * Qej n k < ldR n (l.map (Q4 n)) t k
      · rw [decide_eq_true hc, if_pos hc]; rfl
      · rw [decide_eq_false hc, if_neg hc]; rfl) (by
      unfold Qes
      rw [hlen, XM]; rfl)
  unfold Qet
  rw [decide_eq_true hh, cond_true, QLi h ht (by omega), Qw, key, Qw, XX (x := t + 1) (by omega)]
  cases ZW n (l.map (Q4 n)) t <;> rfl
theorem QLl : Qeu n l = some (pkB (Zj n (l.map (Q4 n)))) := by
  have hat : ∀ r ∈ l.map (Q4 n), 0 ≤ r.at_ ∧ r.at_ ≤ 1000 := fun r hr => ⟨(Qnw h r hr).2.2.1, (Qnw h r hr).2.2.2⟩
  have hl := h.l6
  have first : loop (Qhz l) (1012, 0, 0) = some (YK (l.map (Q4 n)), ZD (l.map (Q4 n))) :=
    YU (fun k => (((l.map (Q4 n)).take k).foldl loF 1012, ((l.map (Q4 n)).take k).foldl hiF 0, (k : Int))) l.length (fun k hk => by
      have hd := hat (Q4 n l[k]) (List.mem_map.2 ⟨_, List.getElem_mem hk, rfl⟩)
      have e : (Q4 n l[k]).at_ = l[k].At := rfl
      rw [e] at hd
      unfold Qhz
      simp only [XL hk, cond_true, Xs hk, Qw]
      rw [Qbb _ _ _ _ (by simpa using hk), Qbb _ _ _ _ (by simpa using hk), XX (x := l[k].At + 12) (by omega), XP k (by omega)]
      simp only [List.getElem_map]
      rfl) (by
      unfold Qhz
      simp only [XM, cond_false, YK, ZD]
      rw [List.take_of_length_le (by simp)])
  have b1 := Quo hat
  have b2 := Qtx hat
  have key := Qhg (step := Qet n l (ZD (l.map (Q4 n)))) (fun k => YK (l.map (Q4 n)) + (k : Int)) (ZD (l.map (Q4 n)) - YK (l.map (Q4 n)) + 1).toNat (fun (j : Nat) => ZW n (l.map (Q4 n)) (YK (l.map (Q4 n)) + j)) (fun p => (p, true)) () (fun k hk => by
    rw [QLk h (by omega) (by omega) (by omega)]
    cases ZW n (l.map (Q4 n)) (YK (l.map (Q4 n)) + (k : Int)) with
    | some p => rfl
    | none => simp only; congr 2; omega) (by
    unfold Qet
    rw [decide_eq_false (by omega)]; rfl)
  unfold Qeu
  rw [first, Qw]
  simp only [Int.natCast_zero, Int.add_zero] at key ⊢
  rw [key, Qw]
  unfold Zj
  cases (List.range (ZD (l.map (Q4 n)) - YK (l.map (Q4 n)) + 1).toNat).findSome? (fun (j : Nat) => ZW n (l.map (Q4 n)) (YK (l.map (Q4 n)) + j)) <;> rfl
end
end Go.Gw

end
section
set_option maxRecDepth 4096
namespace Go.Gw
open Go
/-! ### Lists, compared -/
def Yb : List Int → List Int → Int
  | [], [] => 0
  | [], _ :: _ => -1
  | _ :: _, [] => 1
  | x :: xs, y :: ys => if x < y then -1 else if y < x then 1 else Yb xs ys
theorem Qul : ∀ a, Yb a a = 0
  | [] => rfl
  | x :: xs => by simp [Yb, Qul xs]
theorem Quk : ∀ {a b}, Yb a b = 0 → a = b
  | [], [], _ => rfl
  | [], _ :: _, h => by simp [Yb] at h
  | _ :: _, [], h => by simp [Yb] at h
  | x :: xs, y :: ys, h => by
    unfold Yb at h
    by_cases h1 : x < y
    · simp [h1] at h
    · by_cases h2 : y < x
      · simp [h1, h2] at h
      · simp only [h1, h2, if_false] at h
        rw [show x = y by omega, Quk h]
theorem Qmv : ∀ a b, Yb a b = -Yb b a
  | [], [] => rfl
  | [], _ :: _ => rfl
  | _ :: _, [] => rfl
  | x :: xs, y :: ys => by
    unfold Yb
    by_cases h1 : x < y
    · have h2 : ¬ y < x := by omega
      simp [h1, h2]
    · by_cases h2 : y < x
      · simp [h1, h2]
      · simp only [h1, h2, if_false]; exact Qmv xs ys
theorem Qum : ∀ {a b c}, Yb a b ≤ 0 → Yb b c ≤ 0 → Yb a c ≤ 0
  | [], _, [], _, _ => by simp [Yb]
  | [], _, _ :: _, _, _ => by simp [Yb]
  | _ :: _, [], _, h, _ => by simp [Yb] at h
  | _ :: _, _ :: _, [], _, h => by simp [Yb] at h
  | x :: xs, y :: ys, z :: zs, h1, h2 => by
    unfold Yb at h1 h2 ⊢
    by_cases a1 : x < y
    · by_cases b1 : y < z
      · rw [if_pos (by omega)]; omega
      · by_cases b2 : z < y
        · simp [b1, b2] at h2
        · rw [if_pos (by omega)]; omega
    · by_cases a2 : y < x
      · simp [a1, a2] at h1
      · obtain rfl : x = y := by omega
        simp only [a1, if_false] at h1
        by_cases b1 : x < z
        · rw [if_pos b1]; omega
        · by_cases b2 : z < x
          · simp [b1, b2] at h2
          · simp only [b1, b2, if_false] at h2 ⊢
            exact Qum h1 h2
theorem Quj (x y : Int) (h : x < y) : ∀ (a xs ys : List Int), Yb (a ++ x :: xs) (a ++ y :: ys) < 0
  | [], xs, ys => by simp [Yb, h]
  | z :: a, xs, ys => by simp only [List.cons_append, Yb, Int.lt_irrefl, if_false]; exact Quj x y h a xs ys
theorem QBf (a b : Int) : Qbs [a, b] = some (if a = 0 then b else a) := by
  unfold Qbs
  rw [ZT [a, b] (fun x => !decide (x = 0)) (fun _ x => x)]
  · by_cases h1 : a = 0
    · by_cases h2 : b = 0 <;> simp [XH, h1, h2, jn0]
    · simp [XH, h1, jn0]
  · intro k hk
    unfold Qgk
    rw [XL hk, cond_true, Xs hk, Qw, XP k (by simp at hk; omega)]
  · unfold Qgk
    rw [XM]; rfl
theorem QMx (a b : List Int) (ha : a.length < 1000000) : Qcq a b = some (Yb a b) := by
  have key : ∀ j k, k + j = a.length → k ≤ b.length → (Option.bind (loop (Qbj a b) (k : Int)) fun o => jn0 o fun (_ : Unit) => (bif decide ((a.length : Int) < (b.length : Int)) then some (-1) else some 0)) = some (Yb (a.drop k) (b.drop k)) := by
    intro j
    induction j with
    | zero =>
      intro k hk hb
      obtain rfl : k = a.length := by omega
      have e : Qbj a b (a.length : Int) = some (.inr (.inr ())) := by
        unfold Qbj; rw [XM]; rfl
      rw [Ju e, Qw, List.drop_length]
      show (bif decide ((a.length : Int) < (b.length : Int)) then some (-1) else some 0) = _
      by_cases h : a.length < b.length
      · rw [decide_eq_true (by omega), List.drop_eq_getElem_cons h]; rfl
      · rw [decide_eq_false (by omega), List.drop_eq_nil_of_le (by omega)]; rfl
    | succ j ih =>
      intro k hk hb
      have hlt : k < a.length := by omega
      have e : Qbj a b (k : Int) = (bif decide ((b.length : Int) ≤ (k : Int)) then some (.inr (.inl 1)) else Option.bind (idx b (k : Int)) fun el => (bif !decide ((if a[k] < el then (-1 : Int) else if el < a[k] then 1 else 0) = 0) then some (.inr (.inl (if a[k] < el then (-1 : Int) else if el < a[k] then 1 else 0))) else some (.inl ((k + 1 : Nat) : Int)))) := by
        unfold Qbj
        rw [XL hlt, cond_true, Xs hlt, Qw, XP k (by omega)]
        simp only [Qgl, Qw]
      rw [List.drop_eq_getElem_cons hlt]
      by_cases hkb : k < b.length
      · rw [decide_eq_false (by omega), cond_false, Xs hkb, Qw] at e
        rw [List.drop_eq_getElem_cons hkb]
        by_cases h1 : a[k] < b[k]
        · simp only [h1, if_true] at e
          rw [Ju e]
          simp [Yb, h1, jn0]
        · by_cases h2 : b[k] < a[k]
          · simp only [h1, h2, if_true, if_false] at e
            rw [Ju e]
            simp [Yb, h1, h2, jn0]
          · simp only [h1, h2, if_false, decide_true, Bool.not_true, cond_false] at e
            rw [Qcj e, ih (k + 1) (by omega) (by omega)]
            simp [Yb, h1, h2]
      · rw [decide_eq_true (by omega), cond_true] at e
        rw [Ju e, List.drop_eq_nil_of_le (show b.length ≤ k by omega)]
        rfl
  unfold Qcq
  have := key a.length 0 (by omega) (by omega)
  simpa using this
/-! ### Plans, compared -/
def pc (p o : feed_plan) : Int := if p.delay < o.delay then -1 else if o.delay < p.delay then 1 else Yb p.at_ o.at_
def Zy (p o : feed_plan) : Bool := p.found && (!o.found || decide (pc p o < 0))
theorem Qpn (p o : feed_plan) (hp : p.at_.length < 1000000) : JV p o = some (Zy p o) := by
  unfold JV Zy pc
  cases p.found with
  | false => rfl
  | true =>
    cases o.found with
    | false => rfl
    | true =>
      simp only [Bool.not_true, Bool.not_false, Bool.and_self, cond_true, Qgl, QMx _ _ hp, Qw, QBf]
      by_cases h1 : p.delay < o.delay
      · simp [h1]
      · by_cases h2 : o.delay < p.delay <;> simp [h1, h2]
theorem Qnj (p : feed_plan) : pc p p = 0 := by simp [pc, Qul]
theorem Qwa (p q : feed_plan) : pc p q = -pc q p := by
  unfold pc
  by_cases h1 : p.delay < q.delay
  · have h2 : ¬ q.delay < p.delay := by omega
    simp [h1, h2]
  · by_cases h2 : q.delay < p.delay
    · simp [h1, h2]
    · simp only [h1, h2, if_false]; exact Qmv _ _
theorem Qwb {p q r : feed_plan} (h1 : pc p q ≤ 0) (h2 : pc q r ≤ 0) : pc p r ≤ 0 := by
  unfold pc at *
  by_cases a1 : p.delay < q.delay
  · by_cases b1 : q.delay < r.delay
    · rw [if_pos (by omega)]; omega
    · by_cases b2 : r.delay < q.delay
      · simp [b1, b2] at h2
      · rw [if_pos (by omega)]; omega
  · by_cases a2 : q.delay < p.delay
    · simp [a1, a2] at h1
    · simp only [a1, a2, if_false] at h1
      by_cases b1 : q.delay < r.delay
      · rw [if_pos (by omega)]; omega
      · by_cases b2 : r.delay < q.delay
        · simp [b1, b2] at h2
        · simp only [b1, b2, if_false] at h2
          rw [if_neg (by omega), if_neg (by omega)]
          exact Qum h1 h2
theorem QKu {p q : feed_plan} (hp : p.found = true) (hq : q.found = true) (h : pc p q = 0) : p = q := by
  unfold pc at h
  by_cases h1 : p.delay < q.delay
  · simp [h1] at h
  · by_cases h2 : q.delay < p.delay
    · simp [h1, h2] at h
    · simp only [h1, h2, if_false] at h
      have h3 := Quk h
      have h4 : p.delay = q.delay := by omega
      cases p; cases q
      simp only at hp hq h3 h4
      subst hp hq h3 h4
      rfl
def Bst (l : List feed_plan) (B : feed_plan) : Prop := ((∀ p ∈ l, p.found = false) ∧ B.found = false) ∨ (B ∈ l ∧ B.found = true ∧ ∀ q ∈ l, q.found = true → pc B q ≤ 0)
theorem Bst.found_eq {l : List feed_plan} {B B' : feed_plan} (h : Bst l B) (h' : Bst l B') : B.found = B'.found := by
  rcases h with ⟨h1, h2⟩ | ⟨h1, h2, h3⟩
  · rcases h' with ⟨k1, k2⟩ | ⟨k1, k2, k3⟩
    · rw [h2, k2]
    · have := h1 _ k1; rw [k2] at this; cases this
  · rcases h' with ⟨k1, k2⟩ | ⟨k1, k2, k3⟩
    · have := k1 _ h1; rw [h2] at this; cases this
    · rw [h2, k2]
theorem Bst.eq {l : List feed_plan} {B B' : feed_plan} (h : Bst l B) (h' : Bst l B') (hf : B.found = true) : B = B' := by
  have hf' := (h.found_eq h').symm.trans hf
  rcases h with ⟨h1, h2⟩ | ⟨h1, h2, h3⟩
  · rw [h2] at hf; cases hf
  · rcases h' with ⟨k1, k2⟩ | ⟨k1, k2, k3⟩
    · rw [k2] at hf'; cases hf'
    · refine QKu hf hf' ?_
      have a := h3 _ k1 hf'
      have b := k3 _ h1 hf
      rw [Qwa] at b
      omega
theorem Bst.perm {l l' : List feed_plan} (hp : l'.Perm l) {B : feed_plan} (h : Bst l B) : Bst l' B := by
  rcases h with ⟨h1, h2⟩ | ⟨h1, h2, h3⟩
  · exact .inl ⟨fun p hm => h1 p (hp.subset hm), h2⟩
  · exact .inr ⟨hp.symm.subset h1, h2, fun q hq => h3 q (hp.subset hq)⟩
def XR (b p : feed_plan) : feed_plan := bif Zy p b then p else b
def YF : feed_plan := ⟨[], 0, false⟩
theorem Qeh : ∀ (l : List feed_plan), Bst l (l.foldl XR YF) ∧ ((l.foldl XR YF).found = false → l.foldl XR YF = YF) := by
  have key : ∀ (l pre : List feed_plan) (B : feed_plan), Bst pre B → (B.found = false → B = YF) → Bst (pre ++ l) (l.foldl XR B) ∧ ((l.foldl XR B).found = false → l.foldl XR B = YF) := by
    intro l
    induction l with
    | nil => intro pre B h hz; rw [List.append_nil]; exact ⟨h, hz⟩
    | cons p l ih =>
      intro pre B h hz
      rw [List.foldl_cons, show pre ++ p :: l = (pre ++ [p]) ++ l by simp]
      refine ih (pre ++ [p]) _ ?_ ?_
      · unfold XR Zy
        cases hp : p.found with
        | false =>
          simp only [Bool.false_and, cond_false]
          rcases h with ⟨h1, h2⟩ | ⟨h1, h2, h3⟩
          · refine .inl ⟨fun q hq => ?_, h2⟩
            rcases List.mem_append.1 hq with hq | hq
            · exact h1 q hq
            · rw [List.mem_singleton.1 hq]; exact hp
          · refine .inr ⟨List.mem_append_left _ h1, h2, fun q hq hf => ?_⟩
            rcases List.mem_append.1 hq with hq | hq
            · exact h3 q hq hf
            · rw [List.mem_singleton.1 hq, hp] at hf; cases hf
        | true =>
          rcases h with ⟨h1, h2⟩ | ⟨h1, h2, h3⟩
          · simp only [h2, Bool.not_false, Bool.true_or, Bool.and_self, cond_true]
            refine .inr ⟨by simp, hp, fun q hq hf => ?_⟩
            rcases List.mem_append.1 hq with hq | hq
            · rw [h1 q hq] at hf; cases hf
            · rw [List.mem_singleton.1 hq, Qnj]; exact Int.le_refl _
          · simp only [h2, Bool.not_true, Bool.false_or, Bool.true_and]
            by_cases hc : pc p B < 0
            · simp only [hc, decide_true, cond_true]
              refine .inr ⟨by simp, hp, fun q hq hf => ?_⟩
              rcases List.mem_append.1 hq with hq | hq
              · exact Qwb (by omega) (h3 q hq hf)
              · rw [List.mem_singleton.1 hq, Qnj]; exact Int.le_refl _
            · simp only [hc, decide_false, cond_false]
              refine .inr ⟨List.mem_append_left _ h1, h2, fun q hq hf => ?_⟩
              rcases List.mem_append.1 hq with hq | hq
              · exact h3 q hq hf
              · rw [List.mem_singleton.1 hq, Qwa]; omega
      · unfold XR
        cases hb : Zy p B with
        | true =>
          intro hf
          unfold Zy at hb
          rw [cond_true] at hf
          rw [hf] at hb; cases hb
        | false => exact hz
  intro l
  have := key l [] YF (.inl ⟨fun p hp => (by cases hp), rfl⟩) (fun _ => rfl)
  simpa using this
theorem Bst.flat {α : Type} {ks : List α} {f : α → List feed_plan} {g : α → feed_plan} (hg : ∀ k ∈ ks, Bst (f k) (g k)) {B : feed_plan} (h : Bst (ks.map g) B) : Bst (ks.flatMap f) B := by
  rcases h with ⟨h1, h2⟩ | ⟨h1, h2, h3⟩
  · refine .inl ⟨fun p hp => ?_, h2⟩
    obtain ⟨k, hk, hp⟩ := List.mem_flatMap.1 hp
    rcases hg k hk with ⟨a, _⟩ | ⟨_, a, _⟩
    · exact a p hp
    · rw [h1 _ (List.mem_map.2 ⟨k, hk, rfl⟩)] at a; cases a
  · obtain ⟨k, hk, rfl⟩ := List.mem_map.1 h1
    rcases hg k hk with ⟨_, a⟩ | ⟨a1, a2, a3⟩
    · rw [a] at h2; cases h2
    · refine .inr ⟨List.mem_flatMap.2 ⟨k, hk, a1⟩, h2, fun q hq hf => ?_⟩
      obtain ⟨j, hj, hq⟩ := List.mem_flatMap.1 hq
      rcases hg j hj with ⟨b, _⟩ | ⟨b1, b2, b3⟩
      · rw [b q hq] at hf; cases hf
      · exact Qwb (h3 _ (List.mem_map.2 ⟨j, hj, rfl⟩) b2) (b3 q hq hf)
theorem Qtv : ∀ (l : List feed_plan) (b : feed_plan), (∀ p ∈ l, p.at_.length < 1000000) → YZ l b = some (l.foldl XR b)
  | [], b, _ => rfl
  | p :: l, b, h => by
    rw [YZ, Qpn _ _ (h p (List.mem_cons_self ..)), Qw, Qtv l _ fun q hq => h q (List.mem_cons_of_mem _ hq)]
    rfl
theorem QKp {net : feed_net} {t : FeedTrain} (ht : 0 ≤ t.Earliest ∧ t.Earliest ≤ t.Latest ∧ t.Latest ≤ 1000000000) {res : Nat → feed_plan} (hr : ∀ k, k < (t.Latest - t.Earliest + 1).toNat → Qeo net t k = some (res k) ∧ (res k).at_.length < 1000000) :
    JU net t = some (((List.range (t.Latest - t.Earliest + 1).toNat).map res).foldl XR YF) := by
  have hl : ∀ m, m ≤ (t.Latest - t.Earliest + 1).toNat → Jk net t m = some ((List.range m).map res) := by
    intro m
    induction m with
    | zero => intro _; rfl
    | succ m ih =>
      intro hm
      rw [Jk, ih (by omega), Qw, (hr m (by omega)).1, Qw, List.range_succ, List.map_append]; rfl
  have hall : ∀ l : List feed_plan, l.Perm ((List.range (t.Latest - t.Earliest + 1).toNat).map res) → YZ l YF = some (((List.range (t.Latest - t.Earliest + 1).toNat).map res).foldl XR YF) := by
    intro l hp
    rw [Qtv l _ fun p hm => ?_]
    · congr 1
      have h1 := Qeh l
      have h2 := Qeh ((List.range (t.Latest - t.Earliest + 1).toNat).map res)
      have h3 := h2.1.perm hp
      cases hf : (l.foldl XR YF).found with
      | true => exact h1.1.eq h3 hf
      | false => rw [h1.2 hf, h2.2 ((h1.1.found_eq h3).symm.trans hf)]
    · obtain ⟨k, hk, rfl⟩ := List.mem_map.1 (hp.subset hm)
      exact (hr k (List.mem_range.1 hk)).2
  unfold JU
  rw [if_pos ht, hl _ (Nat.le_refl _), Qw]
  have he : ∃ r, ∀ l : List feed_plan, l.Perm ((List.range (t.Latest - t.Earliest + 1).toNat).map res) → YZ l ⟨[], 0, false⟩ = some r := ⟨_, hall⟩
  rw [dif_pos he]
  have h1 := he.choose_spec _ (List.Perm.refl _)
  have h2 := hall _ (List.Perm.refl _)
  exact h1.symm.trans h2
end Go.Gw

end
