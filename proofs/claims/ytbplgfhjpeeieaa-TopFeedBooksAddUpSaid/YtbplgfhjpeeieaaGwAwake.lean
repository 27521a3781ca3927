/- Laws of the walk. Condition: each theorem says its own. -/
import Derived.Test.YtbplgfhjpeeieaaGwTwin
import Derived.Test.YtbplgfhjpeeieaaGwPlan
import Derived.IntWalk
set_option linter.unusedVariables false
set_option linter.unusedSimpArgs false
set_option linter.unusedSectionVars false
section
set_option maxRecDepth 1000000
namespace Go.Gw
open Go
end Go.Gw

end
section
set_option linter.unusedSectionVars false
namespace Go.Gw
open Go

theorem Xl {x : Int} (h : -9223372036854775808 ≤ x ∧ x ≤ 9223372036854775807) : w64 x = x := Go.IntWalk.i64_in x h

def Runs {α : Type} (e : Option α) (Q : α → Prop) : Prop := ∃ a, e = some a ∧ Q a

section
variable {α β σ μ : Type} {Q : α → Prop} {e e' : Option α}
theorem Runs.some {a : α} (h : Q a) : Runs (some a) Q := ⟨a, rfl, h⟩
theorem Runs.bind {e : Option β} {f : β → Option α} (h : Runs e fun b => Runs (f b) Q) : Runs (e.bind f) Q := by
  obtain ⟨b, rfl, a, ha, hq⟩ := h; exact ⟨a, ha, hq⟩
theorem Runs.mono {Q' : α → Prop} (h : Runs e Q) (hm : ∀ a, Q a → Q' a) : Runs e Q' := by obtain ⟨a, ha, hq⟩ := h; exact ⟨a, ha, hm _ hq⟩
theorem Runs.eq {a : α} (h : Runs e (· = a)) : e = .some a := by obtain ⟨b, hb, rfl⟩ := h; exact hb
theorem Runs.call {e : Option β} {f : β → Option α} {b : β} (h : e = .some b) (hq : Runs (f b) Q) : Runs (e.bind f) Q := by subst h; exact hq
theorem Runs.bif {b : Bool} (ht : b = true → Runs e Q) (hf : b = false → Runs e' Q) : Runs (bif b then e else e') Q := by
  cases b
  · exact hf rfl
  · exact ht rfl
theorem Runs.jl {b : α} {f : μ → Option α} (h : Q b) : Runs (jn0 (.inl b) f) Q := ⟨b, rfl, h⟩
theorem Runs.j {o : α ⊕ μ} {f : μ → Option α} (hl : ∀ b, o = .inl b → Q b) (hr : ∀ m, o = .inr m → Runs (f m) Q) : Runs (jn0 o f) Q := by
  cases o with
  | inl b => exact Runs.jl (hl b rfl)
  | inr m => exact hr m rfl

def Rnd (I : σ → Prop) (m : σ → Nat) (Q : β → Prop) (s : σ) : σ ⊕ β → Prop
  | .inl s' => I s' ∧ m s' < m s
  | .inr o => Q o
theorem Runs.loop {step : σ → Option (σ ⊕ β)} {s : σ} {Q : β → Prop} (I : σ → Prop) (m : σ → Nat) (h0 : I s) (h : ∀ s, I s → Runs (step s) (Rnd I m Q s)) : Runs (Gw.loop step s) Q := by
  generalize hk : m s = k
  induction k using Nat.strongRecOn generalizing s with
  | _ k ih =>
    obtain ⟨x, hx, hq⟩ := h s h0
    cases x with
    | inl s' =>
      rw [Qgf hx]
      exact ih (m s') (by have := hq.2; omega) hq.1 rfl
    | inr o => rw [Qab hx]; exact ⟨o, rfl, hq⟩
theorem Zo {step : σ → Option (σ ⊕ β)} {o : β} (S : Nat → σ) (n : Nat) (h : ∀ k, k < n → step (S k) = .some (.inl (S (k + 1)))) (he : step (S n) = .some (.inr o)) : Gw.loop step (S 0) = .some o := by
  have key : ∀ j k, j + k = n → Gw.loop step (S k) = .some o := by
    intro j
    induction j with
    | zero => intro k hk; obtain rfl : k = n := by omega
              exact Qab he
    | succ j ih => intro k hk; rw [Qgf (h k (by omega))]; exact ih (k + 1) (by omega)
  exact key n 0 (by omega)

theorem Runs.idx {xs : List β} {i : Int} {f : β → Option α} (h0 : 0 ≤ i) (h1 : i < xs.length) (h : ∀ x, xs[i.toNat]? = .some x → Runs (f x) Q) : Runs ((Gw.idx xs i).bind f) Q := by
  have hl : i.toNat < xs.length := by omega
  have e : Gw.idx xs i = .some xs[i.toNat] := by unfold Gw.idx; rw [if_pos h0, List.getElem?_eq_getElem hl]
  exact Runs.call e (h _ (List.getElem?_eq_getElem hl))
theorem Xq {xs : List β} {k : Nat} (h : k < xs.length) : Gw.idx xs (k : Int) = .some xs[k] := by
  unfold Gw.idx; rw [if_pos (by omega), Int.toNat_natCast, List.getElem?_eq_getElem h]
theorem Xq? {xs : List β} {k : Nat} : Gw.idx xs (k : Int) = xs[k]? := by
  unfold Gw.idx; rw [if_pos (by omega), Int.toNat_natCast]
theorem Jx {xs ys : List β} (h : xs.length + ys.length ≤ 1073741824) : app xs ys = .some (xs ++ ys) := by unfold app; rw [if_pos h]
end
end Go.Gw

end
section
set_option linter.unusedSectionVars false
namespace Go.Gw
section
variable {α β γ σ ρ : Type}
def XG (p : α → Bool) (res : Nat → α → ρ) : Nat → List α → ρ ⊕ Unit
  | _, [] => .inr ()
  | k, x :: xs => if p x then .inl (res k x) else XG p res (k + 1) xs
theorem ZZ {step : Int → Option (Int ⊕ (ρ ⊕ Unit))} (xs : List α) (p : α → Bool) (res : Nat → α → ρ)
    (hs : ∀ k (hk : k < xs.length), step (k : Int) = (bif p xs[k] then some (.inr (.inl (res k xs[k]))) else some (.inl ((k + 1 : Nat) : Int))))
    (he : step (xs.length : Int) = some (.inr (.inr ()))) : loop step 0 = some (XG p res 0 xs) := by
  have key : ∀ j k, j + k = xs.length → loop step (k : Int) = some (XG p res k (xs.drop k)) := by
    intro j
    induction j with
    | zero =>
      intro k hk
      obtain rfl : k = xs.length := by omega
      rw [List.drop_length]
      exact Qab he
    | succ j ih =>
      intro k hk
      have hlt : k < xs.length := by omega
      rw [List.drop_eq_getElem_cons hlt]
      have := hs k hlt
      cases hp : p xs[k] with
      | true => rw [hp] at this; simp only [XG, hp, if_true]; exact Qab this
      | false => rw [hp] at this; simp only [XG, hp]; rw [Qgf this]; exact ih (k + 1) (by omega)
  have := key xs.length 0 (by omega)
  simpa using this

def fld (f : Nat → γ → α → γ) : Nat → γ → List α → γ
  | _, a, [] => a
  | k, a, x :: xs => fld f (k + 1) (f k a x) xs
def rng (f : Nat → γ → γ) (a : γ) : Nat → γ
  | 0 => a
  | n + 1 => f n (rng f a n)
theorem XC (k : Nat) (h : k < 4611686018427387904) : w64 ((k : Int) + 1) = ((k + 1 : Nat) : Int) := by rw [Xl (by omega)]; omega
theorem XE {k n : Nat} (h : k < n) : decide ((k : Int) < (n : Int)) = true := by simp; omega
theorem XF (n : Nat) : decide ((n : Int) < (n : Int)) = false := by simp
end
end Go.Gw

end
section
set_option maxRecDepth 4096
namespace Go.Gw
open Go

def Y0 : List Int → Int
  | [] => 0
  | x :: xs => if x = 0 then Y0 xs else x
theorem J8 (l : List Int) (hl : l.length < 1073741824) : ZE l = some (Y0 l) := by
  unfold ZE
  rw [ZZ l (fun x => !decide (x = 0)) (fun _ x => x)]
  · have key : ∀ (l : List Int) k, (jn0 (XG (fun x => !decide (x = 0)) (fun _ x => x) k l) fun (_ : Unit) => some 0) = some (Y0 l) := by
      intro l
      induction l with
      | nil => intro k; rfl
      | cons x xs ih =>
        intro k
        by_cases h : x = 0
        · simp [XG, Y0, h]; exact ih _
        · simp [XG, Y0, h, jn0]
    simpa using key l 0
  · intro k hk
    unfold Qiq
    rw [XE hk, Xq hk, XC k (by omega)]; rfl
  · unfold Qiq
    rw [XF]; rfl
theorem Jr (b : Bool) (e : Int) : X7 b e = some (bif b then 0 else e) := by cases b <;> rfl
theorem Qam (n lo hi : Int) : ZW n lo hi = some (decide (lo ≤ n) && decide (n ≤ hi)) := rfl
theorem Qcc (n lo hi : Int) : Jh n lo hi = some (decide (lo ≤ n) && decide (n ≤ hi)) := rfl
theorem QNm (n m : Int) (h : 0 ≤ m) (h2 : m ≤ 9223372036854775807) : Qea n m = some (decide (-m ≤ n) && decide (n ≤ m)) := by
  unfold Qea
  rw [Xl (by omega), Qam, Int.zero_sub]; rfl
theorem Qhb {α : Type} (p : α → Bool) : ∀ (l : List α) (k : Nat), (jn0 (β := Int) (XG p (fun k _ => (k : Int)) k l) fun (_ : Unit) => some (-1)) = some (match XG p (fun k _ => (k : Int)) k l with | .inl i => i | .inr _ => -1)
  | l, k => by cases XG p (fun k _ => (k : Int)) k l <;> rfl
theorem Qkr {α : Type} (p : α → Bool) : ∀ (l : List α) (k : Nat), decide (0 ≤ (match XG p (fun k _ => (k : Int)) k l with | .inl i => i | .inr _ => (-1 : Int))) = l.any p
  | [], k => by simp [XG]
  | x :: xs, k => by
    by_cases h : p x = true
    · simp [XG, h]
    · simp only [XG, h, List.any_cons]
      have := Qkr p xs (k + 1)
      simpa [h] using this
theorem Qbv {α ρ : Type} {p : α → Bool} {res : Nat → α → ρ} : ∀ (l : List α) (k : Nat), (XG p res k l = .inr () ∧ l.any p = false) ∨ ∃ j x, XG p res k l = .inl (res j x) ∧ p x = true ∧ l.any p = true
  | [], k => .inl ⟨rfl, rfl⟩
  | x :: xs, k => by
    by_cases h : p x = true
    · exact .inr ⟨k, x, by simp [XG, h], h, by simp [h]⟩
    · rcases Qbv xs (k + 1) (p := p) (res := res) with ⟨h1, h2⟩ | ⟨j, y, h1, h2, h3⟩
      · exact .inl ⟨by simp [XG, h, h1], by simp [h, h2]⟩
      · exact .inr ⟨j, y, by simp [XG, h, h1], h2, by simp [h3]⟩
/-! ### Ladders -/
end Go.Gw

end
section
set_option maxRecDepth 4096
namespace Go.Gw
open Go
def XS (f : Nat → Int) (n : Nat) : Option Nat := (List.range n).find? fun i => decide (f i ≠ 0)
theorem J7 (f : Nat → Int) (n : Nat) : (XS f n = none ∧ ∀ j, j < n → f j = 0) ∨ ∃ i, XS f n = some i ∧ i < n ∧ f i ≠ 0 ∧ ∀ j, j < i → f j = 0 := by
  cases h : XS f n with
  | none =>
    refine .inl ⟨rfl, fun j hj => ?_⟩
    have := List.find?_eq_none.1 h j (List.mem_range.2 hj)
    simpa using this
  | some i =>
    right
    obtain ⟨h1, h2, h3⟩ := List.find?_range_eq_some.1 h
    exact ⟨i, rfl, List.mem_range.1 h2, by simpa using h1, fun j hj => by have := h3 j hj; simpa using this⟩
theorem Qaa {σ ρ μ : Type} {step : σ → Option (σ ⊕ (ρ ⊕ μ))} (S : Nat → σ) (n : Nat) (f : Nat → Int) (res : Nat → Int → ρ) (o : μ)
    (hs : ∀ k, k < n → (∀ j, j < k → f j = 0) → step (S k) = if f k = 0 then some (.inl (S (k + 1))) else some (.inr (.inl (res k (f k))))) (he : (∀ j, j < n → f j = 0) → step (S n) = some (.inr (.inr o))) :
    loop step (S 0) = some (match XS f n with | some i => .inl (res i (f i)) | none => .inr o) := by
  rcases J7 f n with ⟨h1, h2⟩ | ⟨i, h1, h2, h3, h4⟩
  · rw [h1]
    exact Zo S n (fun k hk => by rw [hs k hk fun j hj => h2 j (by omega), if_pos (h2 k hk)]) (he h2)
  · rw [h1]
    exact Zo S i (fun k hk => by rw [hs k (by omega) fun j hj => h4 j (by omega), if_pos (h4 k hk)]) (by rw [hs i h2 h4, if_neg h3])
/-! ### Names -/
def Qfb (q : Int × Nat) : Bool := (!(((decide (97 ≤ q.1)) && (decide (q.1 ≤ 122))) || ((decide (65 ≤ q.1)) && (decide (q.1 ≤ 90))))) && ((decide ((q.2 : Int) = 0)) || ((!decide (q.1 = 45)) && ((decide (q.1 < 48)) || (decide (57 < q.1)))))
def bi (s : ByteArray) : List Int := bl s
theorem Qhv (s : ByteArray) : (bi s).length = s.size := Qbi s
theorem Qtp {s : ByteArray} {k : Nat} (h : k < (bi s).length) : idx (α := Int) (bl s) (k : Int) = some (bi s)[k] := Xq (xs := bi s) h
def Qbt (s : ByteArray) : Bool := decide (1 ≤ s.size) && (decide (s.size ≤ 12) && !((bi s).zipIdx.any Qfb))
theorem Qwz (s : ByteArray) : s = ByteArray.mk #[] ↔ s.size = 0 := by
  constructor
  · intro h; subst h; rfl
  · intro h
    cases s with
    | mk d =>
      congr 1
      exact Array.eq_empty_of_size_eq_zero h
theorem Qpr (s : ByteArray) : Qfc s = some (Qbt s) := by
  unfold Qfc Qbt
  have hlen : (bi s).zipIdx.length = s.size := by rw [List.length_zipIdx, Qhv]
  by_cases h : 1 ≤ s.size ∧ s.size ≤ 12
  · have : (decide ((s.size : Int) < 1) || decide (12 < (s.size : Int))) = false := by
      rw [decide_eq_false (by omega), decide_eq_false (by omega)]; rfl
    rw [this, cond_false, ZZ (bi s).zipIdx Qfb (fun _ _ => false), Qs]
    · rcases Qbv (p := Qfb) (res := fun _ _ => false) (bi s).zipIdx 0 with ⟨k1, k2⟩ | ⟨j, x, k1, k2, k3⟩
      · rw [k1, k2]; simp [h, jn0]
      · rw [k1, k3]; simp [jn0]
    · intro k hk
      rw [hlen] at hk
      unfold Qlz
      rw [XE hk, cond_true, Qtp (show k < (bi s).length by rw [Qhv]; exact hk), Qs, XC k (by omega)]
      simp only [List.getElem_zipIdx, Nat.zero_add]
      rfl
    · rw [hlen]
      unfold Qlz
      rw [XF]; rfl
  · have : (decide ((s.size : Int) < 1) || decide (12 < (s.size : Int))) = true := by
      by_cases h1 : s.size < 1
      · rw [decide_eq_true (by omega)]; rfl
      · rw [decide_eq_true (p := 12 < (s.size : Int)) (by omega)]; simp
    rw [this, cond_true]
    congr 1
    by_cases h1 : 1 ≤ s.size
    · rw [decide_eq_false (p := s.size ≤ 12) (by omega)]; simp
    · rw [decide_eq_false h1]; rfl
theorem QCa (s : ByteArray) (hs : s.size ≤ 1000) : Qfm s = some (Qbt s) := by
  unfold Qfm Qbt
  have hlen : (bi s).zipIdx.length = s.size := by rw [List.length_zipIdx, Qhv]
  have ht : tob s = some (bl s) := by unfold tob; rw [if_pos (by omega)]
  rw [ht, Qs, ZZ (bi s).zipIdx Qfb (fun _ _ => false), Qs]
  · rcases Qbv (p := Qfb) (res := fun _ _ => false) (bi s).zipIdx 0 with ⟨k1, k2⟩ | ⟨j, x, k1, k2, k3⟩
    · rw [k1, k2]
      simp only [jn0, Bool.not_false, Bool.and_true, Option.some.injEq]
      by_cases h0 : s.size = 0
      · rw [decide_eq_true ((Qwz s).2 h0), decide_eq_false (show ¬ 1 ≤ s.size by omega)]; rfl
      · rw [decide_eq_false (fun e => h0 ((Qwz s).1 e)), decide_eq_true (show 1 ≤ s.size by omega)]
        simp only [Bool.not_false, Bool.true_and]
        by_cases h1 : s.size ≤ 12
        · rw [decide_eq_true h1, decide_eq_true (by omega)]
        · rw [decide_eq_false h1, decide_eq_false (by omega)]
    · rw [k1, k3]; simp [jn0]
  · intro k hk
    rw [hlen] at hk
    have hk2 : k < (bl s).length := by rw [Qbi]; exact hk
    unfold Qis
    rw [XE hk2, cond_true, Qtp (show k < (bi s).length by rw [Qhv]; exact hk), Qs, XC k (by omega)]
    simp only [List.getElem_zipIdx, Nat.zero_add]
    rfl
  · rw [hlen, show (s.size : Int) = ((bl s).length : Int) by rw [Qbi]]
    unfold Qis
    rw [XF]; rfl
theorem QBg (l : List ByteArray) (v : ByteArray) (hl : l.length < 1000000) : Qgw l v = some (l.any fun x => decide (v = x)) := by
  unfold Qgw Qkq
  rw [ZZ l (fun x => decide (v = x)) (fun k _ => (k : Int)), Qs, Qhb, Qs, Qkr]
  · intro k hk
    unfold Qkp
    rw [XE hk, Xq hk, XC k (by omega)]; rfl
  · unfold Qkp
    rw [XF]; rfl
def Jk (s : ByteArray) (others : List ByteArray) : Int := if Qbt s = false then 4 else if (others.any fun x => decide (s = x)) = true then 5 else 0
theorem Quq (s : ByteArray) (others : List ByteArray) (hs : s.size ≤ 1000) (hl : others.length < 1000000) : Qdr s others = some (Jk s others) := by
  unfold Qdr Jk
  rw [QCa s hs, Qs, Jr, Qs, QBg _ _ hl, Qs, Jr, Qs, J8 _ (by simp), Qs]
  cases Qbt s <;> cases (others.any fun x => decide (s = x)) <;> simp [Y0]
end Go.Gw

end
section
set_option maxRecDepth 4096
namespace Go.Gw
open Go
theorem Qhw {α : Type} {c : Bool} {a b : α} : (bif c then some a else some b) = some (bif c then a else b) := by cases c <;> rfl
def Qos (l r il ir eq sh lo s0 s1 : Bool) : Int := bif (!(l || il)) || !(r || ir) then 6 else bif l && r then 23 else bif eq then 26 else bif !(sh && lo) then 2 else bif (l && !s0) || (r && !s1) then 3 else 0
def Zy (s : FeedSection) (n : Nat) : Int := Qos (decide (s.Left = -1)) (decide (s.Right = -1)) (decide (0 ≤ s.Left) && decide (s.Left ≤ (n : Int) - 1)) (decide (0 ≤ s.Right) && decide (s.Right ≤ (n : Int) - 1)) (decide (s.Left = s.Right))
  (decide (0 ≤ s.Share) && decide (s.Share ≤ 1000)) (decide (0 ≤ s.Loss) && decide (s.Loss ≤ 500)) (decide (s.Share = 0)) (decide (s.Share = 1000))
theorem QCg (s : FeedSection) (n : Nat) (hn : n < 1000) : Qfw s (n : Int) = some (Zy s n) := by
  unfold Qfw Qfv Zy
  rw [Xl (by omega)]
  simp only [Jr, Qam, Qs, Qhw]
  rw [J8 _ (by simp), Qs]
  congr 1
  generalize decide (s.Left = -1) = l
  generalize decide (s.Right = -1) = r
  generalize (decide (0 ≤ s.Left) && decide (s.Left ≤ (n : Int) - 1)) = il
  generalize (decide (0 ≤ s.Right) && decide (s.Right ≤ (n : Int) - 1)) = ir
  generalize decide (s.Left = s.Right) = eq
  generalize (decide (0 ≤ s.Share) && decide (s.Share ≤ 1000)) = sh
  generalize (decide (0 ≤ s.Loss) && decide (s.Loss ≤ 500)) = lo
  generalize decide (s.Share = 0) = s0
  generalize decide (s.Share = 1000) = s1
  revert l r il ir eq sh lo s0 s1
  decide +kernel
theorem QKu (m : FeedNet) (s : FeedSection) (hn : m.Stations.length < 1000) : Qkb m s = some (Zy s m.Stations.length) := by
  unfold Qkb Qka Zy
  rw [Xl (by omega)]
  simp only [Qcc, Qs, Qhw]
  congr 1
  generalize decide (s.Left = -1) = l
  generalize decide (s.Right = -1) = r
  generalize (decide (0 ≤ s.Left) && decide (s.Left ≤ (m.Stations.length : Int) - 1)) = il
  generalize (decide (0 ≤ s.Right) && decide (s.Right ≤ (m.Stations.length : Int) - 1)) = ir
  generalize decide (s.Left = s.Right) = eq
  generalize (decide (0 ≤ s.Share) && decide (s.Share ≤ 1000)) = sh
  generalize (decide (0 ≤ s.Loss) && decide (s.Loss ≤ 500)) = lo
  generalize decide (s.Share = 0) = s0
  generalize decide (s.Share = 1000) = s1
  revert l r il ir eq sh lo s0 s1
  decide +kernel
def Jn (s : FeedStep) (n : Nat) : Int := bif !(decide (0 ≤ s.Section) && decide (s.Section ≤ (n : Int) - 1)) then 6 else bif !(decide (-20000 ≤ s.Power) && decide (s.Power ≤ 20000)) then 2 else 0
def Qks (l : List FeedStep) (n : Nat) : Int := match XS (fun i => (l[i]?.map (Jn · n)).getD 0) l.length with | some i => (l[i]?.map (Jn · n)).getD 0 | none => 0
def Qyu (e1 e2 : Bool) (o : Bool) (z : Bool) (m : Bool) (st : Int) : Int := bif !(e1 && e2) then 2 else bif !o then 9 else bif !z then 10 else bif !m then 8 else st
def JX (t : FeedTrain) (n : Nat) : Int := Qyu (decide (0 ≤ t.Earliest) && decide (t.Earliest ≤ 1000)) (decide (0 ≤ t.Latest) && decide (t.Latest ≤ 1000)) (decide (t.Earliest ≤ t.Latest)) (decide (0 < (t.Steps.length : Int))) (decide ((t.Steps.length : Int) ≤ 12)) (Qks t.Steps n)
theorem Qnq (l : List FeedStep) (n k : Nat) (hk : k < l.length) : (l[k]?.map (Jn · n)).getD 0 = Jn l[k] n := by rw [List.getElem?_eq_getElem hk]; rfl
theorem QCk (t : FeedTrain) (n : Nat) (hn : n < 1000) (ht : t.Steps.length < 1000) : Qfz t (n : Int) = some (JX t n) := by
  have key : loop (Qfy (n : Int) t) 0 = some (match XS (fun i => (t.Steps[i]?.map (Jn · n)).getD 0) t.Steps.length with | some i => .inl ((t.Steps[i]?.map (Jn · n)).getD 0) | none => .inr ()) :=
    Qaa (fun k => (k : Int)) t.Steps.length _ (fun _ e => e) () (fun k hk _ => by
      rw [Qnq _ _ _ hk]
      unfold Qfy Jn
      rw [XE hk, cond_true, Xq hk, Qs, XC k (by omega), Xl (by omega)]
      simp only [Jr, Qam, Qs]
      rw [QNm _ _ (by omega) (by omega)]
      simp only [Jr, Qs]
      rw [J8 _ (by simp), Qs]
      generalize (decide (0 ≤ t.Steps[k].Section) && decide (t.Steps[k].Section ≤ (n : Int) - 1)) = a
      generalize (decide (-20000 ≤ t.Steps[k].Power) && decide (t.Steps[k].Power ≤ 20000)) = b
      cases a <;> cases b <;> rfl) (fun _ => by
      unfold Qfy
      rw [XF]; rfl)
  unfold Qfz Qch
  rw [key]
  unfold JX Qks
  simp only [Jr, Qam, Qs, Qhw]
  rw [J8 _ (by simp), Qs]
  generalize (decide (0 ≤ t.Earliest) && decide (t.Earliest ≤ 1000)) = e1
  generalize (decide (0 ≤ t.Latest) && decide (t.Latest ≤ 1000)) = e2
  generalize decide (t.Earliest ≤ t.Latest) = o
  generalize decide (0 < (t.Steps.length : Int)) = z
  generalize decide ((t.Steps.length : Int) ≤ 12) = m
  cases XS (fun i => (t.Steps[i]?.map (Jn · n)).getD 0) t.Steps.length with
  | none => cases e1 <;> cases e2 <;> cases o <;> cases z <;> cases m <;> rfl
  | some i => cases e1 <;> cases e2 <;> cases o <;> cases z <;> cases m <;> rfl
theorem QKy (m : FeedNet) (t : FeedTrain) (hn : m.Sections.length < 1000) (ht : t.Steps.length < 1000) : Qkd m t = some (JX t m.Sections.length) := by
  have key : loop (Qkc m t) 0 = some (match XS (fun i => (t.Steps[i]?.map (Jn · m.Sections.length)).getD 0) t.Steps.length with | some i => .inl ((t.Steps[i]?.map (Jn · m.Sections.length)).getD 0) | none => .inr ()) :=
    Qaa (fun k => (k : Int)) t.Steps.length _ (fun _ e => e) () (fun k hk _ => by
      rw [Qnq _ _ _ hk]
      unfold Qkc Qok Jn
      rw [XE hk, cond_true, Xq hk, Qs, XC k (by omega), Xl (by omega)]
      simp only [Qcc, Qs]
      generalize (decide (0 ≤ t.Steps[k].Section) && decide (t.Steps[k].Section ≤ (m.Sections.length : Int) - 1)) = a
      generalize (decide (-20000 ≤ t.Steps[k].Power) && decide (t.Steps[k].Power ≤ 20000)) = b
      cases a <;> cases b <;> rfl) (fun _ => by
      unfold Qkc
      rw [XF]; rfl)
  unfold Qkd
  rw [key]
  unfold JX Qks
  simp only [Qcc, Qs, Qhw]
  rw [show decide (t.Latest < t.Earliest) = !decide (t.Earliest ≤ t.Latest) by rw [← decide_not]; congr 1; exact propext (by omega),
    show decide ((t.Steps.length : Int) = 0) = !decide (0 < (t.Steps.length : Int)) by rw [← decide_not]; congr 1; exact propext (by omega),
    show decide (12 < (t.Steps.length : Int)) = !decide ((t.Steps.length : Int) ≤ 12) by rw [← decide_not]; congr 1; exact propext (by omega)]
  generalize (decide (0 ≤ t.Earliest) && decide (t.Earliest ≤ 1000)) = e1
  generalize (decide (0 ≤ t.Latest) && decide (t.Latest ≤ 1000)) = e2
  generalize decide (t.Earliest ≤ t.Latest) = o
  generalize decide (0 < (t.Steps.length : Int)) = z
  generalize decide ((t.Steps.length : Int) ≤ 12) = q
  cases XS (fun i => (t.Steps[i]?.map (Jn · m.Sections.length)).getD 0) t.Steps.length with
  | none => cases e1 <;> cases e2 <;> cases o <;> cases z <;> cases q <;> rfl
  | some i => cases e1 <;> cases e2 <;> cases o <;> cases z <;> cases q <;> rfl
end Go.Gw

end
section
set_option maxRecDepth 4096
namespace Go.Gw
open Go
def stE (s : FeedStation) (others : List ByteArray) : Int := if Jk s.Name others ≠ 0 then Jk s.Name others else bif !(decide (0 ≤ s.Limit) && decide (s.Limit ≤ 100000)) then 2 else 0
def ZS (n : FeedNet) (i : Nat) : Int := (n.Stations[i]?.map fun s => stE s ((n.Stations.take i).map (·.Name))).getD 0
def ZR (n : FeedNet) (i : Nat) : Int := (n.Sections[i]?.map fun s => Zy s n.Stations.length).getD 0
def trE (t : FeedTrain) (others : List ByteArray) (n : Nat) : Int := if Jk t.Name others ≠ 0 then Jk t.Name others else JX t n
def Zz (n : FeedNet) (i : Nat) : Int := (n.Trains[i]?.map fun t => trE t ((n.Trains.take i).map (·.Name)) n.Sections.length).getD 0
def Zp (n : FeedNet) : FeedMark × Int :=
  if n.Stations.length = 0 ∨ n.Sections.length = 0 then (FeedMark.mk 0 0, 10) else if 6 < n.Stations.length ∨ 10 < n.Sections.length ∨ 6 < n.Trains.length then (FeedMark.mk 0 0, 8) else
  match XS (ZS n) n.Stations.length with
  | some i => (FeedMark.mk 1 i, ZS n i)
  | none => match XS (ZR n) n.Sections.length with
    | some i => (FeedMark.mk 2 i, ZR n i)
    | none => match XS (Zz n) n.Trains.length with
      | some i => (FeedMark.mk 3 i, Zz n i)
      | none => (FeedMark.mk 0 0, 0)
structure NetS (n : FeedNet) : Prop where
  st : n.Stations.length < 1000
  se : n.Sections.length < 1000
  tr : n.Trains.length < 1000
  sn : ∀ s ∈ n.Stations, s.Name.size ≤ 1000
  tn : ∀ t ∈ n.Trains, t.Name.size ≤ 1000 ∧ t.Steps.length < 1000
theorem ZN {α : Type} (l : List α) (f : α → Int) (k : Nat) (hk : k < l.length) : (l[k]?.map f).getD 0 = f l[k] := by rw [List.getElem?_eq_getElem hk]; rfl
theorem Qkw {α β : Type} (l : List α) (f : α → β) (k : Nat) (hk : k < l.length) : (l.take k).map f ++ [f l[k]] = (l.take (k + 1)).map f := by
  rw [List.take_add_one, List.getElem?_eq_getElem hk, List.map_append]; rfl
theorem Qnl (a b : Int) : Y0 [a, b] = if a ≠ 0 then a else b := by
  by_cases h : a = 0
  · by_cases h2 : b = 0 <;> simp [Y0, h, h2]
  · simp [Y0, h]
section
variable {n : FeedNet} (h : NetS n)
include h
theorem QCi : loop (Qfi n) (([] : List ByteArray), 0) = some (match XS (ZS n) n.Stations.length with | some i => .inl (FeedMark.mk 1 i, ZS n i) | none => .inr ()) :=
  Qaa (fun k => ((n.Stations.take k).map (·.Name), (k : Int))) n.Stations.length (ZS n) (fun i e => (FeedMark.mk 1 i, e)) () (fun k hk _ => by
    have hst := h.st
    have hs : ZS n k = stE n.Stations[k] ((n.Stations.take k).map (·.Name)) := ZN _ _ _ hk
    rw [hs]
    unfold Qfi stE
    simp only [XE hk, cond_true, Xq hk, Qs]
    rw [Quq _ _ (h.sn _ (List.getElem_mem hk)) (by simp; omega), Qs]
    simp only [Qam, Jr, Qs]
    rw [J8 _ (by simp), Qs, Qnl]
    generalize (decide (0 ≤ n.Stations[k].Limit) && decide (n.Stations[k].Limit ≤ 100000)) = b
    by_cases h1 : Jk n.Stations[k].Name ((n.Stations.take k).map (·.Name)) = 0
    · simp only [h1, ne_eq, not_true_eq_false, if_false]
      cases b
      · rfl
      · simp only [cond_true, decide_true, Bool.not_true, cond_false, if_true]
        rw [Jx (by simp; omega), Qs, Qkw n.Stations (·.Name) k hk, XC k (by omega)]
    · simp only [ne_eq, h1, not_false_eq_true, if_true, decide_false, Bool.not_false, cond_true, if_false]) (fun _ => by
    unfold Qfi
    simp only [XF]; rfl)
theorem QCh : loop (Qfj n) 0 = some (match XS (ZR n) n.Sections.length with | some i => .inl (FeedMark.mk 2 i, ZR n i) | none => .inr ()) :=
  Qaa (fun k => (k : Int)) n.Sections.length (ZR n) (fun i e => (FeedMark.mk 2 i, e)) () (fun k hk _ => by
    have hse := h.se
    have hs : ZR n k = Zy n.Sections[k] n.Stations.length := ZN _ _ _ hk
    rw [hs]
    unfold Qfj
    rw [XE hk, cond_true, Xq hk, Qs, QCg _ _ h.st, Qs, XC k (by omega)]
    by_cases h1 : Zy n.Sections[k] n.Stations.length = 0
    · simp [h1]
    · simp [h1]) (fun _ => by
    unfold Qfj
    rw [XF]; rfl)
theorem QCm : loop (Qfk n) (([] : List ByteArray), 0) = some (match XS (Zz n) n.Trains.length with | some i => .inl (FeedMark.mk 3 i, Zz n i) | none => .inr ()) :=
  Qaa (fun k => ((n.Trains.take k).map (·.Name), (k : Int))) n.Trains.length (Zz n) (fun i e => (FeedMark.mk 3 i, e)) () (fun k hk _ => by
    have hst := h.tr
    have hs : Zz n k = trE n.Trains[k] ((n.Trains.take k).map (·.Name)) n.Sections.length := ZN _ _ _ hk
    rw [hs]
    unfold Qfk trE
    simp only [XE hk, cond_true, Xq hk, Qs]
    rw [Quq _ _ (h.tn _ (List.getElem_mem hk)).1 (by simp; omega), Qs, QCk _ _ h.se (h.tn _ (List.getElem_mem hk)).2, Qs]
    rw [J8 _ (by simp), Qs, Qnl]
    by_cases h1 : Jk n.Trains[k].Name ((n.Trains.take k).map (·.Name)) = 0
    · simp only [h1, ne_eq, not_true_eq_false, if_false]
      by_cases h2 : JX n.Trains[k] n.Sections.length = 0
      · simp only [h2, decide_true, Bool.not_true, cond_false, if_true]
        rw [Jx (by simp; omega), Qs, Qkw n.Trains (·.Name) k hk, XC k (by omega)]
      · simp [h2]
    · simp only [ne_eq, h1, not_false_eq_true, if_true, decide_false, Bool.not_false, cond_true, if_false]) (fun _ => by
    unfold Qfk
    simp only [XF]; rfl)
theorem Qqu : Qfl n = some (Zp n) := by
  unfold Qfl Zp
  rw [QCi h, QCh h, QCm h]
  simp only [Jr, Qs]
  rw [J8 _ (by simp), Qs, Qnl]
  by_cases h1 : n.Stations.length = 0 ∨ n.Sections.length = 0
  · rw [if_pos h1]
    have : (decide (0 < (n.Stations.length : Int)) && decide (0 < (n.Sections.length : Int))) = false := by
      rw [Bool.eq_false_iff]; intro e; simp at e; omega
    rw [this]; rfl
  · rw [if_neg h1]
    have : (decide (0 < (n.Stations.length : Int)) && decide (0 < (n.Sections.length : Int))) = true := by
      simp; omega
    rw [this]
    by_cases h2 : 6 < n.Stations.length ∨ 10 < n.Sections.length ∨ 6 < n.Trains.length
    · rw [if_pos h2]
      have : ((decide ((n.Stations.length : Int) ≤ 6) && decide ((n.Sections.length : Int) ≤ 10)) && decide ((n.Trains.length : Int) ≤ 6)) = false := by
        rw [Bool.eq_false_iff]; intro e; simp at e; omega
      rw [this]; rfl
    · rw [if_neg h2]
      have : ((decide ((n.Stations.length : Int) ≤ 6) && decide ((n.Sections.length : Int) ≤ 10)) && decide ((n.Trains.length : Int) ≤ 6)) = true := by
        simp; omega
      rw [this]
      cases XS (ZS n) n.Stations.length with
      | some i => rfl
      | none =>
        cases XS (ZR n) n.Sections.length with
        | some i => rfl
        | none =>
          cases XS (Zz n) n.Trains.length with
          | some i => rfl
          | none => rfl
end
end Go.Gw

end
section
set_option maxRecDepth 4096
namespace Go.Gw
open Go
theorem Qxs {α : Type} {p : α → Bool} : ∀ (l : List α) (k m : Nat) (hk : k < l.length), p l[k] = true → ∃ j : Nat, XG p (fun k _ => (k : Int)) m l = .inl ((m + j : Nat) : Int) ∧ (j < k ↔ (l.take k).any p = true)
  | x :: xs, 0, m, _, hp => ⟨0, by simp at hp; simp [XG, hp], by simp⟩
  | x :: xs, k + 1, m, hk, hp => by
    by_cases hx : p x = true
    · exact ⟨0, by simp [XG, hx], by simp [hx]⟩
    · obtain ⟨j, h1, h2⟩ := Qxs xs k (m + 1) (by simpa using hk) (by simpa using hp)
      refine ⟨j + 1, by simp only [XG, hx]; rw [← show m + 1 + j = m + (j + 1) by omega]; simpa using h1, ?_⟩
      simp only [List.take_succ_cons, List.any_cons, hx]
      rw [← (show ((l : Bool) → (false || l) = l) from fun l => by cases l <;> rfl) ((xs.take k).any p)] at h2
      constructor
      · intro h; simpa using h2.1 (by omega)
      · intro h; have := h2.2 (by simpa using h); omega
theorem Qlx {α : Type} (f : α → ByteArray) (l : List α) (s : ByteArray) : ((l.map f).any fun x => decide (s = x)) = l.any fun y => decide (f y = s) := by
  rw [List.any_map]
  congr 1
  funext y
  exact decide_eq_decide.2 eq_comm
def Ye (n : FeedNet) (s : ByteArray) : Int := match XG (fun t : FeedTrain => decide (t.Name = s)) (fun k _ => (k : Int)) 0 n.Trains with | .inl i => i | .inr _ => -1
theorem Qvz (n : FeedNet) (s : ByteArray) (h : n.Trains.length < 1000000) : Qgq n s = some (Ye n s) := by
  unfold Qgq Ye
  rw [ZZ n.Trains (fun t => decide (t.Name = s)) (fun k _ => (k : Int)), Qs, Qhb]
  all_goals first
    | (intro k hk; unfold Qoj; rw [XE hk, cond_true, Xq hk, Qs, XC k (by omega)])
    | (unfold Qoj; rw [XF]; rfl)
    | rfl
section
variable {n : FeedNet} (h : NetS n)
include h
theorem QKx : loop (Qjt n) 0 = some (match XS (ZS n) n.Stations.length with | some i => .inl (FeedMark.mk 1 i, ZS n i) | none => .inr ()) :=
  Qaa (fun k => (k : Int)) n.Stations.length (ZS n) (fun i e => (FeedMark.mk 1 i, e)) () (fun k hk _ => by
    have hst := h.st
    have hs : ZS n k = stE n.Stations[k] ((n.Stations.take k).map (·.Name)) := ZN _ _ _ hk
    have hlen : (n.Stations.take k).length = k := by simp; omega
    have inner : loop (Qjs n (k : Int)) 0 = some (XG (fun y : FeedStation => decide (y.Name = n.Stations[k].Name)) (fun _ _ => Sum.inr (α := Int) (Sum.inl (β := Unit) (FeedMark.mk 1 (k : Int), (5 : Int)))) 0 (n.Stations.take k)) :=
      ZZ (n.Stations.take k) _ _ (fun j hj => by
        rw [hlen] at hj
        unfold Qjs
        rw [XE hj, cond_true, Xq (show j < n.Stations.length by omega), Qs, Xq hk, Qs, XC j (by omega)]
        simp only [List.getElem_take]) (by
        rw [hlen]
        unfold Qjs
        rw [XF]; rfl)
    rw [hs]
    unfold Qjt stE Jk
    rw [XE hk, cond_true, Xq hk, Qs, Qpr, Qs, inner, Qlx]
    cases hn : Qbt n.Stations[k].Name
    · rfl
    · simp only [Bool.not_true, cond_false, Qs]
      rcases Qbv (p := fun y : FeedStation => decide (y.Name = n.Stations[k].Name)) (res := fun _ _ => Sum.inr (α := Int) (Sum.inl (β := Unit) (FeedMark.mk 1 (k : Int), (5 : Int)))) (n.Stations.take k) 0 with ⟨k1, k2⟩ | ⟨j, x, k1, k2, k3⟩
      · rw [k1, k2]
        simp only [jn0, Qs, Qcc, XC k (show k < 4611686018427387904 by omega)]
        generalize (decide (0 ≤ n.Stations[k].Limit) && decide (n.Stations[k].Limit ≤ 100000)) = b
        cases b <;> rfl
      · rw [k1, k3]; rfl) (fun _ => by
    unfold Qjt
    rw [XF]; rfl)
theorem QKv : loop (Qju n) 0 = some (match XS (ZR n) n.Sections.length with | some i => .inl (FeedMark.mk 2 i, ZR n i) | none => .inr ()) :=
  Qaa (fun k => (k : Int)) n.Sections.length (ZR n) (fun i e => (FeedMark.mk 2 i, e)) () (fun k hk _ => by
    have hse := h.se
    have hs : ZR n k = Zy n.Sections[k] n.Stations.length := ZN _ _ _ hk
    rw [hs]
    unfold Qju
    rw [XE hk, cond_true, Xq hk, Qs, QKu _ _ h.st, Qs, XC k (by omega)]
    by_cases h1 : Zy n.Sections[k] n.Stations.length = 0
    · simp [h1]
    · simp [h1]) (fun _ => by
    unfold Qju
    rw [XF]; rfl)
theorem QKz : loop (Qjv n) 0 = some (match XS (Zz n) n.Trains.length with | some i => .inl (FeedMark.mk 3 i, Zz n i) | none => .inr ()) :=
  Qaa (fun k => (k : Int)) n.Trains.length (Zz n) (fun i e => (FeedMark.mk 3 i, e)) () (fun k hk _ => by
    have hst := h.tr
    have hs : Zz n k = trE n.Trains[k] ((n.Trains.take k).map (·.Name)) n.Sections.length := ZN _ _ _ hk
    obtain ⟨j, hj1, hj2⟩ := Qxs (p := fun t : FeedTrain => decide (t.Name = n.Trains[k].Name)) n.Trains k 0 hk (by simp)
    have ht : Ye n n.Trains[k].Name = (j : Int) := by unfold Ye; rw [hj1]; simp
    rw [hs]
    unfold Qjv trE Jk
    rw [XE hk, cond_true, Xq hk, Qs, Qpr, Qs, Qlx]
    cases hn : Qbt n.Trains[k].Name
    · rfl
    · simp only [Bool.not_true, cond_false, Qs]
      rw [Qvz _ _ (by omega), ht, Qs, QKy _ _ h.se (h.tn _ (List.getElem_mem hk)).2, Qs, XC k (by omega)]
      cases ha : (n.Trains.take k).any (fun t => decide (t.Name = n.Trains[k].Name)) with
      | true =>
        rw [decide_eq_true (show (j : Int) < k by have := hj2.2 ha; omega)]; rfl
      | false =>
        rw [decide_eq_false (show ¬ (j : Int) < k by intro e; have := hj2.1 (by omega); rw [ha] at this; cases this)]
        by_cases h2 : JX n.Trains[k] n.Sections.length = 0
        · simp [h2]
        · simp [h2]) (fun _ => by
    unfold Qjv
    rw [XF]; rfl)
theorem QKr : Qjw n = some (Zp n) := by
  unfold Qjw Zp
  rw [QKx h, QKv h, QKz h]
  by_cases h1 : n.Stations.length = 0 ∨ n.Sections.length = 0
  · rw [if_pos h1]
    have : (decide ((n.Stations.length : Int) = 0) || decide ((n.Sections.length : Int) = 0)) = true := by
      simp only [Bool.or_eq_true, decide_eq_true_eq]; omega
    rw [this]; rfl
  · rw [if_neg h1]
    have : (decide ((n.Stations.length : Int) = 0) || decide ((n.Sections.length : Int) = 0)) = false := by
      rw [decide_eq_false (by omega), decide_eq_false (by omega)]; rfl
    rw [this, cond_false]
    by_cases h2 : 6 < n.Stations.length ∨ 10 < n.Sections.length ∨ 6 < n.Trains.length
    · rw [if_pos h2]
      have : ((decide (6 < (n.Stations.length : Int)) || decide (10 < (n.Sections.length : Int))) || decide (6 < (n.Trains.length : Int))) = true := by
        simp only [Bool.or_eq_true, decide_eq_true_eq]; omega
      rw [this]; rfl
    · rw [if_neg h2]
      have : ((decide (6 < (n.Stations.length : Int)) || decide (10 < (n.Sections.length : Int))) || decide (6 < (n.Trains.length : Int))) = false := by
        rw [decide_eq_false (by omega), decide_eq_false (by omega), decide_eq_false (by omega)]; rfl
      rw [this, cond_false]
      cases XS (ZS n) n.Stations.length with
      | some i => rfl
      | none =>
        cases XS (ZR n) n.Sections.length with
        | some i => rfl
        | none =>
          cases XS (Zz n) n.Trains.length with
          | some i => rfl
          | none => rfl
end
end Go.Gw

end
section
set_option maxRecDepth 4096
namespace Go.Gw
open Go
theorem Qmi (l : List FeedDeparture) (h : l.length < 1000000) : Qbu l = some l := by
  unfold Qbu; rw [Jx (by simp; omega)]; rfl
theorem Qqj {n : FeedNet} (h : NetS n) : Qbc n = some n := by
  have key : loop (Qjx n) (0, ([] : List FeedTrain)) = some n.Trains :=
    Zo (fun k => ((k : Int), n.Trains.take k)) n.Trains.length (fun k hk => by
      have hst := h.tr
      have hsteps := (h.tn _ (List.getElem_mem hk)).2
      unfold Qjx
      simp only [XE hk, cond_true, Xq hk, Qs]
      rw [Jx (by simp; omega), Qs, Jx (by simp; omega), Qs, XC k (by omega), List.nil_append]
      congr 3
      rw [List.take_add_one, List.getElem?_eq_getElem hk]; rfl) (by
      unfold Qjx
      simp only [XF, cond_false, List.take_length])
  unfold Qbc
  have h1 := h.st
  have h2 := h.se
  rw [Jx (by simp; omega), Jx (by simp; omega), key]
  rfl
def Qga (n : FeedNet) : Bool := !(decide (8 < n.Stations.length) || decide (12 < n.Sections.length) || decide (8 < n.Trains.length)) && !(n.Stations.any fun s => decide (20 < (s.Name.size : Int))) && !(n.Trains.any fun t => decide (20 < (t.Name.size : Int)) || decide (14 < (t.Steps.length : Int)))
theorem QGo (n : FeedNet) : Qjf n = some (Qga n) := by
  unfold Qjf Qga
  by_cases h : 8 < n.Stations.length ∨ 12 < n.Sections.length ∨ 8 < n.Trains.length
  · have e1 : ((decide (8 < (n.Stations.length : Int)) || decide (12 < (n.Sections.length : Int))) || decide (8 < (n.Trains.length : Int))) = true := by
      simp only [Bool.or_eq_true, decide_eq_true_eq]; omega
    have e2 : (decide (8 < n.Stations.length) || decide (12 < n.Sections.length) || decide (8 < n.Trains.length)) = true := by
      simp only [Bool.or_eq_true, decide_eq_true_eq]; omega
    rw [e1, e2]; rfl
  · have e1 : ((decide (8 < (n.Stations.length : Int)) || decide (12 < (n.Sections.length : Int))) || decide (8 < (n.Trains.length : Int))) = false := by
      rw [decide_eq_false (by omega), decide_eq_false (by omega), decide_eq_false (by omega)]; rfl
    have e2 : (decide (8 < n.Stations.length) || decide (12 < n.Sections.length) || decide (8 < n.Trains.length)) = false := by
      rw [decide_eq_false (by omega), decide_eq_false (by omega), decide_eq_false (by omega)]; rfl
    rw [e1, e2, cond_false, ZZ n.Stations (fun s => decide (20 < (s.Name.size : Int))) (fun _ _ => false), Qs, ZZ n.Trains (fun t => decide (20 < (t.Name.size : Int)) || decide (14 < (t.Steps.length : Int))) (fun _ _ => false)]
    · rcases Qbv (p := fun s : FeedStation => decide (20 < (s.Name.size : Int))) (res := fun _ _ => false) n.Stations 0 with ⟨k1, k2⟩ | ⟨j, x, k1, k2, k3⟩
      · rw [k1, k2]
        rcases Qbv (p := fun t : FeedTrain => decide (20 < (t.Name.size : Int)) || decide (14 < (t.Steps.length : Int))) (res := fun _ _ => false) n.Trains 0 with ⟨k3, k4⟩ | ⟨j, x, k3, k4, k5⟩
        · rw [k3, k4]; rfl
        · rw [k3, k5]; rfl
      · rw [k1, k3]; rfl
    · intro k hk
      unfold Qnv
      rw [XE hk, cond_true, Xq hk, Qs, XC k (by omega)]
      cases h1 : decide (20 < (n.Trains[k].Name.size : Int)) <;> simp
    · unfold Qnv
      rw [XF]; rfl
    · intro k hk
      unfold Qnu
      rw [XE hk, cond_true, Xq hk, Qs, XC k (by omega)]
    · unfold Qnu
      rw [XF]; rfl
theorem QGn {n : FeedNet} (h : Qga n = true) : NetS n := by
  unfold Qga at h
  simp only [Bool.and_eq_true, Bool.not_eq_true', Bool.or_eq_false_iff, decide_eq_false_iff_not, List.any_eq_false] at h
  obtain ⟨⟨⟨⟨h1, h2⟩, h3⟩, h4⟩, h5⟩ := h
  refine ⟨by omega, by omega, by omega, fun s hs => ?_, fun t ht => ?_⟩
  · have := h4 s hs; simp at this; omega
  · have := h5 t ht; simp at this; omega
end Go.Gw

end
section
set_option maxRecDepth 4096
namespace Go.Gw
open Go
def ZL (n : FeedNet) (d : FeedDeparture) (others : List FeedDeparture) : Int := if Ye n d.Train < 0 then 6 else if (others.any fun o => decide (o.Train = d.Train)) = true then 26 else bif !(decide (0 ≤ d.At) && decide (d.At ≤ 1000)) then 2 else 0
def YP (n : FeedNet) (l : List FeedDeparture) (i : Nat) : Int := (l[i]?.map fun d => ZL n d (l.take i)).getD 0
def Xg (n : FeedNet) (d : FeedDeparture) : feed_run := feed_run.mk (n.Trains[(Ye n d.Train).toNat]?.getD default) d.At
theorem Qpg {n : FeedNet} {s : ByteArray} (h : 0 ≤ Ye n s) : ∃ t, n.Trains[(Ye n s).toNat]? = some t ∧ t.Name = s ∧ (Ye n s).toNat < n.Trains.length := by
  have key : ∀ (l : List FeedTrain) (m : Nat), (XG (fun t : FeedTrain => decide (t.Name = s)) (fun k _ => (k : Int)) m l = .inr ()) ∨ ∃ (j : Nat) (t : FeedTrain), XG (fun t : FeedTrain => decide (t.Name = s)) (fun k _ => (k : Int)) m l = .inl ((m + j : Nat) : Int) ∧ l[j]? = some t ∧ t.Name = s := by
    intro l
    induction l with
    | nil => intro m; exact .inl rfl
    | cons x xs ih =>
      intro m
      by_cases hx : x.Name = s
      · exact .inr ⟨0, x, by simp [XG, hx], rfl, hx⟩
      · rcases ih (m + 1) with h1 | ⟨j, t, h1, h2, h3⟩
        · exact .inl (by simp [XG, hx, h1])
        · exact .inr ⟨j + 1, t, by simp only [XG, hx, decide_false]; rw [← show m + 1 + j = m + (j + 1) by omega]; simpa using h1, h2, h3⟩
  rcases key n.Trains 0 with h1 | ⟨j, t, h1, h2, h3⟩
  · unfold Ye at h; rw [h1] at h; simp at h
  · have e : Ye n s = (j : Int) := by unfold Ye; rw [h1]; simp
    rw [e]
    exact ⟨t, by simpa using h2, h3, by simpa using (List.getElem?_eq_some_iff.1 h2).1⟩
theorem QCl (n : FeedNet) (s : ByteArray) (h : n.Trains.length < 1000000) : Qft ⟨n⟩ s = some (Ye n s) := by
  unfold Qft Qkm Ye
  rw [ZZ n.Trains (fun t => decide (t.Name = s)) (fun k _ => (k : Int)), Qs, Qhb]
  · rfl
  · intro k hk
    unfold Qkl
    rw [XE hk, cond_true, Xq hk, Qs, XC k (by omega)]; rfl
  · unfold Qkl
    rw [XF]; rfl
theorem QAt (l : List feed_run) (d : FeedDeparture) (hl : l.length < 1000000) : Qgv l d = some (l.any fun r => decide (r.FeedTrain.Name = d.Train)) := by
  unfold Qgv Qko
  rw [ZZ l (fun r => decide (r.FeedTrain.Name = d.Train)) (fun k _ => (k : Int)), Qs, Qhb, Qs, Qkr]
  · intro k hk
    unfold Qkn
    rw [XE hk, cond_true, Xq hk, Qs, XC k (by omega)]; rfl
  · unfold Qkn
    rw [XF]; rfl
theorem Qii {n : FeedNet} {d : FeedDeparture} {o : List FeedDeparture} (h : ZL n d o = 0) : 0 ≤ Ye n d.Train := by
  unfold ZL at h
  split at h
  · cases h
  · omega
theorem QLs {n : FeedNet} (s : ByteArray) (l : List FeedDeparture) (h : ∀ d ∈ l, 0 ≤ Ye n d.Train) : ((l.map (Xg n)).any fun r => decide (r.FeedTrain.Name = s)) = l.any fun d => decide (d.Train = s) := by
  rw [List.any_map]
  induction l with
  | nil => rfl
  | cons d l ih =>
    simp only [List.any_cons]
    rw [ih fun x hx => h x (List.mem_cons_of_mem _ hx)]
    congr 1
    obtain ⟨t, h1, h2, _⟩ := Qpg (h d (List.mem_cons_self ..))
    simp [Xg, h1, h2]
theorem QGr (a b c : Int) : Y0 [a, b, c] = if a ≠ 0 then a else if b ≠ 0 then b else c := by
  by_cases h : a = 0 <;> by_cases h2 : b = 0 <;> by_cases h3 : c = 0 <;> simp [Y0, h, h2, h3]
theorem QCf (n : FeedNet) (l : List FeedDeparture) (hn : n.Trains.length < 1000) : Qfq ⟨n⟩ l = some (if 6 < l.length then ([], 0, 8) else match XS (YP n l) l.length with | some i => ([], (i : Int), YP n l i) | none => (l.map (Xg n), 0, 0)) := by
  unfold Qfq
  by_cases h6 : 6 < l.length
  · rw [decide_eq_true (show 6 < (l.length : Int) by omega), if_pos h6]; rfl
  · rw [decide_eq_false (show ¬ 6 < (l.length : Int) by omega), if_neg h6, cond_false]
    have key : loop (Qfp l ⟨n⟩) (([] : List feed_run), 0) = some (match XS (YP n l) l.length with | some i => .inl ([], (i : Int), YP n l i) | none => .inr (l.map (Xg n))) :=
      Qaa (fun k => ((l.take k).map (Xg n), (k : Int))) l.length (YP n l) (fun i e => (([] : List feed_run), (i : Int), e)) (l.map (Xg n)) (fun k hk hpre => by
        have hs : YP n l k = ZL n l[k] (l.take k) := ZN _ _ _ hk
        have hall : ∀ d ∈ l.take k, 0 ≤ Ye n d.Train := fun d hd => by
          obtain ⟨j, hj, rfl⟩ := List.mem_iff_getElem.1 hd
          have hjk : j < k := by rw [List.length_take] at hj; omega
          have := hpre j hjk
          rw [show YP n l j = ZL n l[j] (l.take j) from ZN _ _ _ (by omega)] at this
          rw [List.getElem_take]
          exact Qii this
        rw [hs]
        unfold Qfp
        simp only [XE hk, cond_true, Xq hk, Qs]
        rw [QCl n _ (by omega), Qs, QAt _ _ (by simp; omega), Qs, QLs _ _ hall]
        unfold Qch
        simp only [Jr, Qam, Qs]
        rw [J8 _ (by simp), Qs, QGr]
        unfold ZL
        generalize (decide (0 ≤ l[k].At) && decide (l[k].At ≤ 1000)) = b
        generalize ((l.take k).any fun d => decide (d.Train = l[k].Train)) = tw
        by_cases ht : Ye n l[k].Train < 0
        · rw [decide_eq_false (show ¬ 0 ≤ Ye n l[k].Train by omega)]
          simp [ht]
        · rw [decide_eq_true (show 0 ≤ Ye n l[k].Train by omega), if_neg ht]
          cases tw
          · cases b
            · rfl
            · simp only [cond_true, Bool.not_false, Bool.not_true, cond_false, ne_eq, not_true_eq_false, if_false, decide_true]
              obtain ⟨t, h1, h2, h3⟩ := Qpg (show 0 ≤ Ye n l[k].Train by omega)
              have hidx : idx n.Trains (Ye n l[k].Train) = some t := by unfold idx; rw [if_pos (by omega)]; exact h1
              rw [hidx, Qs, Jx (by simp; omega), Qs, XC k (by omega)]
              have : feed_run.mk t l[k].At = Xg n l[k] := by unfold Xg; rw [h1]; rfl
              rw [this, Qkw l (Xg n) k hk]
              rfl
          · rfl) (fun _ => by
        unfold Qfp
        simp only [XF, cond_false, List.take_length])
    rw [key, Qs]
    cases XS (YP n l) l.length <;> rfl
theorem QKq (n : FeedNet) (l : List FeedDeparture) (hn : n.Trains.length < 1000) : Qgo n l = some (if 6 < l.length then (0, 8) else match XS (YP n l) l.length with | some i => ((i : Int), YP n l i) | none => (0, 0)) := by
  unfold Qgo
  by_cases h6 : 6 < l.length
  · rw [decide_eq_true (show 6 < (l.length : Int) by omega), if_pos h6]; rfl
  · rw [decide_eq_false (show ¬ 6 < (l.length : Int) by omega), if_neg h6, cond_false]
    have key : loop (Qjr l n) 0 = some (match XS (YP n l) l.length with | some i => .inl ((i : Int), YP n l i) | none => .inr ()) :=
      Qaa (fun k => (k : Int)) l.length (YP n l) (fun i e => ((i : Int), e)) () (fun k hk _ => by
        have hs : YP n l k = ZL n l[k] (l.take k) := ZN _ _ _ hk
        have hlen : (l.take k).length = k := by simp; omega
        have inner : loop (Qjq l (k : Int)) 0 = some (XG (fun y : FeedDeparture => decide (y.Train = l[k].Train)) (fun _ _ => Sum.inr (α := Int) (Sum.inl (β := Unit) ((k : Int), (26 : Int)))) 0 (l.take k)) :=
          ZZ (l.take k) _ _ (fun j hj => by
            rw [hlen] at hj
            unfold Qjq
            rw [XE hj, cond_true, Xq (show j < l.length by omega), Qs, Xq hk, Qs, XC j (by omega)]
            simp only [List.getElem_take]) (by
            rw [hlen]
            unfold Qjq
            rw [XF]; rfl)
        rw [hs]
        unfold Qjr ZL
        rw [XE hk, cond_true, Xq hk, Qs, Qvz _ _ (by omega), Qs, inner]
        by_cases ht : Ye n l[k].Train < 0
        · rw [decide_eq_true ht, if_pos ht]; rfl
        · rw [decide_eq_false ht, if_neg ht, cond_false, Qs]
          rcases Qbv (p := fun y : FeedDeparture => decide (y.Train = l[k].Train)) (res := fun _ _ => Sum.inr (α := Int) (Sum.inl (β := Unit) ((k : Int), (26 : Int)))) (l.take k) 0 with ⟨k1, k2⟩ | ⟨j, x, k1, k2, k3⟩
          · rw [k1, k2]
            simp only [jn0, Qs, Qcc, XC k (show k < 4611686018427387904 by omega)]
            generalize (decide (0 ≤ l[k].At) && decide (l[k].At ≤ 1000)) = b
            cases b <;> rfl
          · rw [k1, k3]; rfl) (fun _ => by
        unfold Qjr
        rw [XF]; rfl)
    rw [key, Qs]
    cases XS (YP n l) l.length <;> rfl
end Go.Gw

end
section
set_option maxRecDepth 4096
namespace Go.Gw
open Go
/-! ### The greatest common divisor -/
/-! ### Sums -/
theorem Qxy {c : Int} (hc : 0 ≤ c) : ∀ {l : List Int}, (∀ x ∈ l, -c ≤ x ∧ x ≤ c) → -(c * l.length) ≤ l.sum ∧ l.sum ≤ c * l.length
  | [], _ => by simp
  | x :: l, h => by
    have h1 := h x (List.mem_cons_self ..)
    have h2 := Qxy hc (l := l) fun y hy => h y (List.mem_cons_of_mem _ hy)
    simp only [List.sum_cons, List.length_cons]
    have : c * ((l.length + 1 : Nat) : Int) = c * l.length + c := by rw [Int.natCast_add, Int.mul_add]; simp
    rw [this]
    omega
end Go.Gw

end
section
set_option maxRecDepth 4096
namespace Go.Gw
open Go
def ZM (st : List FeedStep) (k : Int) (s : Nat) : Int := if 0 ≤ k ∧ k ≤ (st.length : Int) - 1 then (match st[k.toNat]? with | some x => if x.Section = (s : Int) then x.Power else 0 | none => 0) else 0
def QY (l : List feed_run) (t : Int) (s : Nat) : Int := (l.map fun r => ZM r.FeedTrain.Steps (t - r.at_) s).sum
def YA (m : Nat) (r : feed_run) : Prop := (∀ x ∈ r.FeedTrain.Steps, 0 ≤ x.Section ∧ x.Section ≤ (m : Int) - 1 ∧ -20000 ≤ x.Power ∧ x.Power ≤ 20000) ∧ r.FeedTrain.Steps.length ≤ 12 ∧ 0 ≤ r.at_ ∧ r.at_ ≤ 1000
theorem QBk {m : Nat} {r : feed_run} (h : YA m r) (k : Int) (s : Nat) : -20000 ≤ ZM r.FeedTrain.Steps k s ∧ ZM r.FeedTrain.Steps k s ≤ 20000 := by
  unfold ZM
  split
  · split
    · rename_i x hx
      have := h.1 x (List.mem_of_getElem? hx)
      split <;> omega
    · omega
  · omega
theorem Qoh {m : Nat} {l : List feed_run} (h : ∀ r ∈ l, YA m r) (t : Int) (s : Nat) : -(20000 * (l.length : Int)) ≤ QY l t s ∧ QY l t s ≤ 20000 * (l.length : Int) := by
  have := Qxy (c := 20000) (by omega) (l := l.map fun r => ZM r.FeedTrain.Steps (t - r.at_) s) fun x hx => by
    obtain ⟨r, hr, rfl⟩ := List.mem_map.1 hx
    exact QBk (h r hr) _ _
  simpa [QY] using this
theorem Qoi {l : List feed_run} {t : Int} {s k : Nat} (hk : k < l.length) : QY (l.take (k + 1)) t s = QY (l.take k) t s + ZM l[k].FeedTrain.Steps (t - l[k].at_) s := by
  unfold QY
  rw [List.take_add_one, List.getElem?_eq_getElem hk, List.map_append, List.sum_append]
  simp
theorem QMa {m : Nat} {f g : Nat → Int} {s : Nat} (hs : s < m) (hv : ∀ i, i ≠ s → g i = f i) : ((List.range m).map f).set s (g s) = (List.range m).map g := by
  apply List.ext_getElem?
  intro i
  by_cases hi : i = s
  · subst hi
    rw [List.getElem?_set_self (by simpa using hs)]
    simp [hs]
  · rw [List.getElem?_set_ne (Ne.symm hi)]
    by_cases him : i < m
    · simp [him, hv i hi]
    · simp [him]
theorem Qul (m : Nat) (h : m < 1000) : mk (m : Int) (0 : Int) = some ((List.range m).map fun _ => (0 : Int)) := by
  unfold mk
  rw [if_pos (by omega)]
  congr 1
  apply List.ext_getElem?
  intro i
  by_cases hi : i < m <;> simp [hi]
theorem QNq {m : Nat} {r : feed_run} (h : YA m r) {t : Int} (ht : 0 ≤ t) (ht2 : t ≤ 100000) :
    ∃ o, Qbo r t = some o ∧ ((o.2 = false ∧ ∀ s, ZM r.FeedTrain.Steps (t - r.at_) s = 0) ∨ (o.2 = true ∧ 0 ≤ o.1.Section ∧ o.1.Section ≤ (m : Int) - 1 ∧ -20000 ≤ o.1.Power ∧ o.1.Power ≤ 20000 ∧ ∀ s : Nat, ZM r.FeedTrain.Steps (t - r.at_) s = if o.1.Section = (s : Int) then o.1.Power else 0)) := by
  obtain ⟨h1, h2, h3, h4⟩ := h
  unfold Qbo
  rw [Xl (by omega), Xl (by omega), Qam, Qs]
  by_cases hin : 0 ≤ t - r.at_ ∧ t - r.at_ ≤ (r.FeedTrain.Steps.length : Int) - 1
  · have e : (decide (0 ≤ t - r.at_) && decide (t - r.at_ ≤ (r.FeedTrain.Steps.length : Int) - 1)) = true := by
      rw [decide_eq_true hin.1, decide_eq_true hin.2]; rfl
    have hk : (t - r.at_).toNat < r.FeedTrain.Steps.length := by omega
    have hidx : idx r.FeedTrain.Steps (t - r.at_) = some r.FeedTrain.Steps[(t - r.at_).toNat] := by
      unfold idx; rw [if_pos hin.1, List.getElem?_eq_getElem hk]
    rw [e]
    simp only [Bool.not_true, cond_false]
    rw [hidx, Qs]
    have hb := h1 _ (List.getElem_mem hk)
    refine ⟨_, rfl, .inr ⟨rfl, hb.1, hb.2.1, hb.2.2.1, hb.2.2.2, fun s => ?_⟩⟩
    unfold ZM
    rw [if_pos hin, List.getElem?_eq_getElem hk]
  · have e : (decide (0 ≤ t - r.at_) && decide (t - r.at_ ≤ (r.FeedTrain.Steps.length : Int) - 1)) = false := by
      rw [Bool.eq_false_iff]; intro e; simp at e; exact hin (by omega)
    rw [e]
    exact ⟨_, rfl, .inl ⟨rfl, fun s => by unfold ZM; rw [if_neg hin]⟩⟩
theorem Qvw {n : FeedNet} {l : List feed_run} (hn : n.Sections.length < 1000) (hl : l.length ≤ 8) (h : ∀ r ∈ l, YA n.Sections.length r) {t : Int} (ht : 0 ≤ t) (ht2 : t ≤ 100000) :
    Qdy ⟨n⟩ l t = some ((List.range n.Sections.length).map (QY l t)) := by
  have key : loop (Qfo l t) ((List.range n.Sections.length).map (fun _ => (0 : Int)), 0) = some ((List.range n.Sections.length).map (QY l t)) :=
    Zo (fun k => ((List.range n.Sections.length).map (QY (l.take k) t), (k : Int))) l.length (fun k hk => by
      obtain ⟨o, ho, hc⟩ := QNq (h _ (List.getElem_mem hk)) ht ht2
      unfold Qfo
      simp only [XE hk, cond_true, Xq hk, Qs, ho]
      rw [XC k (by omega)]
      rcases hc with ⟨h1, h2⟩ | ⟨h1, h2, h3, h4, h5, h6⟩
      · rw [h1, cond_false]
        congr 3
        apply List.map_congr_left
        intro s _
        rw [Qoi hk, h2 s]; simp
      · rw [h1, cond_true]
        have hs : o.1.Section.toNat < n.Sections.length := by omega
        have hsi : ((o.1.Section.toNat : Nat) : Int) = o.1.Section := by omega
        have hidx : idx ((List.range n.Sections.length).map (QY (l.take k) t)) o.1.Section = some (QY (l.take k) t o.1.Section.toNat) := by
          unfold idx; rw [if_pos h2]; simp [hs]
        have hb := Qoh (l := l.take k) (fun r hr => h r (List.mem_of_mem_take hr)) t o.1.Section.toNat
        have hlen : (l.take k).length ≤ 8 := by rw [List.length_take]; omega
        have hnew : w64 (QY (l.take k) t o.1.Section.toNat + o.1.Power) = QY (l.take (k + 1)) t o.1.Section.toNat := by
          rw [Qoi hk, h6, if_pos (by omega)]; exact Xl (by omega)
        rw [hidx, Qs, Qs, hnew, QMa (f := QY (l.take k) t) (g := QY (l.take (k + 1)) t) hs (fun i hi => by rw [Qoi hk, h6, if_neg (by omega)]; simp)]) (by
      unfold Qfo
      simp only [XF, cond_false, List.take_length])
  unfold Qdy
  rw [Qul _ hn, Qs, key]; rfl
end Go.Gw

end
section
set_option maxRecDepth 4096
namespace Go.Gw
open Go
structure NetOk (n : FeedNet) : Prop where
  st0 : 0 < n.Stations.length
  st6 : n.Stations.length ≤ 6
  se0 : 0 < n.Sections.length
  se10 : n.Sections.length ≤ 10
  tr6 : n.Trains.length ≤ 6
  lim : ∀ s ∈ n.Stations, 0 ≤ s.Limit ∧ s.Limit ≤ 100000
  sec : ∀ s ∈ n.Sections, Zy s n.Stations.length = 0
  tr : ∀ t ∈ n.Trains, JX t n.Sections.length = 0
theorem Qni {f : Nat → Int} {n : Nat} (h : (match XS f n with | some i => f i | none => 0) = 0) : ∀ j, j < n → f j = 0 := by
  rcases J7 f n with ⟨h1, h2⟩ | ⟨i, h1, h2, h3, h4⟩
  · exact h2
  · rw [h1] at h; exact absurd h h3
theorem Qjh {n : FeedNet} (h : (Zp n).2 = 0) : NetOk n := by
  unfold Zp at h
  split at h
  · cases h
  · rename_i h1
    split at h
    · cases h
    · rename_i h2
      rcases J7 (ZS n) n.Stations.length with ⟨a1, a2⟩ | ⟨i, a1, a2, a3, _⟩
      · rw [a1] at h
        rcases J7 (ZR n) n.Sections.length with ⟨b1, b2⟩ | ⟨i, b1, b2, b3, _⟩
        · rw [b1] at h
          rcases J7 (Zz n) n.Trains.length with ⟨c1, c2⟩ | ⟨i, c1, c2, c3, _⟩
          · refine ⟨by omega, by omega, by omega, by omega, by omega, fun s hs => ?_, fun s hs => ?_, fun t ht => ?_⟩
            · obtain ⟨k, hk, rfl⟩ := List.mem_iff_getElem.1 hs
              have := a2 k hk
              rw [show ZS n k = stE n.Stations[k] ((n.Stations.take k).map (·.Name)) from ZN _ _ _ hk] at this
              unfold stE at this
              split at this
              · rename_i hc; exact absurd this hc
              · cases hb : (decide (0 ≤ n.Stations[k].Limit) && decide (n.Stations[k].Limit ≤ 100000)) with
                | true => simpa using hb
                | false => rw [hb] at this; cases this
            · obtain ⟨k, hk, rfl⟩ := List.mem_iff_getElem.1 hs
              have := b2 k hk
              rwa [show ZR n k = Zy n.Sections[k] n.Stations.length from ZN _ _ _ hk] at this
            · obtain ⟨k, hk, rfl⟩ := List.mem_iff_getElem.1 ht
              have := c2 k hk
              rw [show Zz n k = trE n.Trains[k] ((n.Trains.take k).map (·.Name)) n.Sections.length from ZN _ _ _ hk] at this
              unfold trE at this
              split at this
              · rename_i hc; exact absurd this hc
              · exact this
          · rw [c1] at h; exact absurd h c3
        · rw [b1] at h; exact absurd h b3
      · rw [a1] at h; exact absurd h a3
theorem Qhg {t : FeedTrain} {m : Nat} (h : JX t m = 0) : (0 ≤ t.Earliest ∧ t.Earliest ≤ 1000) ∧ (0 ≤ t.Latest ∧ t.Latest ≤ 1000) ∧ t.Earliest ≤ t.Latest ∧ 0 < t.Steps.length ∧ t.Steps.length ≤ 12 ∧ ∀ x ∈ t.Steps, 0 ≤ x.Section ∧ x.Section ≤ (m : Int) - 1 ∧ -20000 ≤ x.Power ∧ x.Power ≤ 20000 := by
  unfold JX Qyu at h
  cases h1 : (decide (0 ≤ t.Earliest) && decide (t.Earliest ≤ 1000)) with
  | false => rw [h1] at h; cases h
  | true =>
    cases h2 : (decide (0 ≤ t.Latest) && decide (t.Latest ≤ 1000)) with
    | false => rw [h1, h2] at h; cases h
    | true =>
      cases h3 : decide (t.Earliest ≤ t.Latest) with
      | false => rw [h1, h2, h3] at h; cases h
      | true =>
        cases h4 : decide (0 < (t.Steps.length : Int)) with
        | false => rw [h1, h2, h3, h4] at h; cases h
        | true =>
          cases h5 : decide ((t.Steps.length : Int) ≤ 12) with
          | false => rw [h1, h2, h3, h4, h5] at h; cases h
          | true =>
            rw [h1, h2, h3, h4, h5] at h
            simp only [Bool.and_self, Bool.not_true, cond_false] at h
            unfold Qks at h
            have hz := Qni h
            simp only [Bool.and_eq_true, decide_eq_true_eq] at h1 h2 h3 h4 h5
            refine ⟨h1, h2, h3, by omega, by omega, fun x hx => ?_⟩
            obtain ⟨k, hk, rfl⟩ := List.mem_iff_getElem.1 hx
            have := hz k hk
            rw [Qnq _ _ _ hk] at this
            unfold Jn at this
            cases a : (decide (0 ≤ t.Steps[k].Section) && decide (t.Steps[k].Section ≤ (m : Int) - 1)) with
            | false => rw [a] at this; cases this
            | true =>
              cases b : (decide (-20000 ≤ t.Steps[k].Power) && decide (t.Steps[k].Power ≤ 20000)) with
              | false => rw [a, b] at this; cases this
              | true =>
                simp only [Bool.and_eq_true, decide_eq_true_eq] at a b
                exact ⟨a.1, a.2, b.1, b.2⟩
theorem QLp {n : FeedNet} (hn : NetOk n) {d : FeedDeparture} {o : List FeedDeparture} (h : ZL n d o = 0) : YA n.Sections.length (Xg n d) := by
  have h0 := Qii h
  obtain ⟨t, h1, h2, h3⟩ := Qpg h0
  have ht := Qhg (hn.tr t (List.mem_of_getElem? h1))
  unfold ZL at h
  rw [if_neg (by omega)] at h
  split at h
  · cases h
  · cases b : (decide (0 ≤ d.At) && decide (d.At ≤ 1000)) with
    | false => rw [b] at h; cases h
    | true =>
      simp only [Bool.and_eq_true, decide_eq_true_eq] at b
      unfold YA Xg
      rw [h1]
      exact ⟨ht.2.2.2.2.2, ht.2.2.2.2.1, b.1, b.2⟩
end Go.Gw

end
section
set_option maxRecDepth 4096
namespace Go.Gw
open Go
structure LadOk (l : FeedLadder) : Prop where
  pos : 0 < l.Loads.length
  most : l.Loads.length ≤ 8
  len : l.Ohms.length = l.Loads.length + 1
  ohm : ∀ x ∈ l.Ohms, 1 ≤ x ∧ x ≤ 500
  load : ∀ x ∈ l.Loads, -20000 ≤ x ∧ x ≤ 20000
theorem Qbr {a b m n : Int} (ha : -m ≤ a ∧ a ≤ m) (hb : -n ≤ b ∧ b ≤ n) : -(m * n) ≤ a * b ∧ a * b ≤ m * n := by
  have h1 : a.natAbs ≤ m.natAbs := by omega
  have h2 : b.natAbs ≤ n.natAbs := by omega
  have h3 := Nat.mul_le_mul h1 h2
  rw [← Int.natAbs_mul, ← Int.natAbs_mul] at h3
  have h4 : 0 ≤ m * n := Int.mul_nonneg (by omega) (by omega)
  omega
section
variable {l : FeedLadder} (h : LadOk l)
include h
end
section
variable {l : FeedLadder} (h : LadOk l)
include h
end
end Go.Gw

end
section
set_option maxRecDepth 4096
namespace Go.Gw
open Go
def Xv (s : FeedSection) (p : Int) : Int := if p < 0 then p * (1000 - s.Loss) else p * (1000 + s.Loss)
def XW (s : FeedSection) (k : Int) : Int := if s.Left = k then s.Share else if s.Right = k then 1000 - s.Share else 0
def Js (s : FeedSection) : Prop := (0 ≤ s.Share ∧ s.Share ≤ 1000) ∧ 0 ≤ s.Loss ∧ s.Loss ≤ 500
theorem Qkg {s : FeedSection} {n : Nat} (h : Zy s n = 0) : Js s := by
  unfold Zy Qos at h
  have key : ((decide (0 ≤ s.Share) && decide (s.Share ≤ 1000)) && (decide (0 ≤ s.Loss) && decide (s.Loss ≤ 500))) = true := by
    cases hb : ((decide (0 ≤ s.Share) && decide (s.Share ≤ 1000)) && (decide (0 ≤ s.Loss) && decide (s.Loss ≤ 500))) with
    | true => rfl
    | false =>
      rw [hb] at h
      revert h
      generalize ((!(decide (s.Left = -1) || (decide (0 ≤ s.Left) && decide (s.Left ≤ (n : Int) - 1)))) || !(decide (s.Right = -1) || (decide (0 ≤ s.Right) && decide (s.Right ≤ (n : Int) - 1)))) = a
      generalize (decide (s.Left = -1) && decide (s.Right = -1)) = b
      generalize decide (s.Left = s.Right) = c
      cases a <;> cases b <;> cases c <;> intro h <;> cases h
  simp only [Bool.and_eq_true, decide_eq_true_eq] at key
  exact ⟨key.1, key.2⟩
theorem Qdk {s : FeedSection} (hs : Js s) {p : Int} (hp : -160000 ≤ p ∧ p ≤ 160000) : -240000000 ≤ Xv s p ∧ Xv s p ≤ 240000000 := by
  obtain ⟨_, h1, h2⟩ := hs
  unfold Xv
  split
  · have := Qbr (a := p) (b := 1000 - s.Loss) (m := 160000) (n := 1500) hp (by omega); omega
  · have := Qbr (a := p) (b := 1000 + s.Loss) (m := 160000) (n := 1500) hp (by omega); omega
theorem Qkh {s : FeedSection} (hs : Js s) (k : Int) : -1000 ≤ XW s k ∧ XW s k ≤ 1000 := by
  obtain ⟨h0, _⟩ := hs
  unfold XW
  split
  · omega
  · split <;> omega
theorem Qqv {s : FeedSection} (hs : Js s) {p : Int} (hp : -160000 ≤ p ∧ p ≤ 160000) : Qdp s p = some (Xv s p) := by
  have hb := Qdk hs hp
  obtain ⟨_, h1, h2⟩ := hs
  unfold Qdp Xv at *
  by_cases h : p < 0
  · rw [if_pos h] at hb ⊢
    rw [decide_eq_true h, cond_true, Xl (x := 1000 - s.Loss) (by omega), Xl (by omega)]
  · rw [if_neg h] at hb ⊢
    rw [decide_eq_false h, cond_false, Xl (x := 1000 + s.Loss) (by omega), Xl (by omega)]
theorem QKw {s : FeedSection} (hs : Js s) (k : Int) : Qol s k = some (XW s k) := by
  obtain ⟨h0, _⟩ := hs
  unfold Qol XW
  by_cases h1 : s.Left = k
  · rw [decide_eq_true h1, if_pos h1]; rfl
  · rw [decide_eq_false h1, if_neg h1]
    by_cases h2 : s.Right = k
    · rw [decide_eq_true h2, if_pos h2]
      simp only [cond_false, cond_true]
      rw [Xl (by omega)]
    · rw [decide_eq_false h2, if_neg h2]; rfl
theorem Qqw {s : FeedSection} (hs : Js s) (k : Int) : Qdq s k = some (XW s k) := by
  rw [← QKw hs k]
  unfold Qdq Qol
  rw [show decide (k = s.Left) = decide (s.Left = k) from decide_eq_decide.2 eq_comm, show decide (k = s.Right) = decide (s.Right = k) from decide_eq_decide.2 eq_comm]
end Go.Gw

end
section
set_option maxRecDepth 4096
namespace Go.Gw
open Go
def ZY (secs : List FeedSection) (f : Nat → Int) (k : Nat) : Nat → Int
  | 0 => 0
  | j + 1 => ZY secs f k j + (secs[j]?.map fun s => Xv s (f j) * XW s (k : Int)).getD 0
section
variable {secs : List FeedSection} {f : Nat → Int} (hs : ∀ s ∈ secs, Js s) (hf : ∀ j, -160000 ≤ f j ∧ f j ≤ 160000)
include hs hf
theorem QOn (k j : Nat) : -240000000000 ≤ (secs[j]?.map fun s => Xv s (f j) * XW s (k : Int)).getD 0 ∧ (secs[j]?.map fun s => Xv s (f j) * XW s (k : Int)).getD 0 ≤ 240000000000 := by
  by_cases hj : j < secs.length
  · rw [List.getElem?_eq_getElem hj]
    have h1 := hs _ (List.getElem_mem hj)
    have := Qbr (Qdk h1 (hf j)) (Qkh h1 (k : Int))
    simp only [Option.map_some, Option.getD_some]
    omega
  · rw [List.getElem?_eq_none (Nat.le_of_not_lt hj)]; simp
theorem Qty (k : Nat) : ∀ j : Nat, -(240000000000 * (j : Int)) ≤ ZY secs f k j ∧ ZY secs f k j ≤ 240000000000 * (j : Int)
  | 0 => by simp [ZY]
  | j + 1 => by
    have h1 := Qty k j
    have h2 := QOn hs hf k j
    simp only [ZY]
    omega
end
theorem QGw {secs : List FeedSection} {f : Nat → Int} {k j : Nat} (hj : j < secs.length) : (secs[j]?.map fun s => Xv s (f j) * XW s (k : Int)).getD 0 = Xv secs[j] (f j) * XW secs[j] (k : Int) := by
  rw [List.getElem?_eq_getElem hj]; rfl
theorem QLa (m j : Nat) (hj : j < m) (f g : Nat → Int) : ((List.range m).map fun i => if i < j then g i else f i).set j (g j) = (List.range m).map fun i => if i < j + 1 then g i else f i := by
  apply List.ext_getElem?
  intro i
  by_cases hi : i = j
  · subst hi
    rw [List.getElem?_set_self (by simpa using hj)]
    simp [hj]
  · rw [List.getElem?_set_ne (Ne.symm hi)]
    by_cases him : i < m
    · simp only [List.getElem?_map, List.getElem?_range him, Option.map_some, Option.some.injEq]
      by_cases h1 : i < j
      · rw [if_pos h1, if_pos (by omega)]
      · rw [if_neg h1, if_neg (by omega)]
    · simp [him]
theorem QHh (m j : Nat) (hj : j < m) (f g : Nat → Int) : idx ((List.range m).map fun i => if i < j then g i else f i) (j : Int) = some (f j) := by
  rw [Xq?]
  simp [hj]
theorem QBz {s : FeedSection} (hs : Js s) {p : Int} (hp : -160000 ≤ p ∧ p ≤ 160000) {m : Nat} (hm : m < 1000) {f : Nat → Int} (hf : ∀ i, -1000000000000000 ≤ f i ∧ f i ≤ 1000000000000000) :
    loop (Qds p s ((List.range m).map f)) ((List.range m).map f, 0) = some ((List.range m).map fun i => f i + Xv s p * XW s (i : Int)) := by
  have e0 : ((List.range m).map fun i => if i < 0 then f i + Xv s p * XW s (i : Int) else f i) = (List.range m).map f := by
    apply List.map_congr_left; intro i _; simp
  have eN : ((List.range m).map fun i => if i < m then f i + Xv s p * XW s (i : Int) else f i) = (List.range m).map fun i => f i + Xv s p * XW s (i : Int) := by
    apply List.map_congr_left; intro i hi; rw [if_pos (List.mem_range.1 hi)]
  have hlen : (((List.range m).map f).length : Int) = (m : Int) := by simp
  have key := Zo (step := Qds p s ((List.range m).map f)) (o := (List.range m).map fun i => f i + Xv s p * XW s (i : Int)) (fun j => ((List.range m).map fun i => if i < j then f i + Xv s p * XW s (i : Int) else f i, (j : Int))) m (fun j hj => by
    have hb := Qbr (Qdk hs hp) (Qkh hs (j : Int))
    have hfj := hf j
    unfold Qds
    simp only [hlen, XE hj, cond_true, QHh m j hj f (fun i => f i + Xv s p * XW s (i : Int)), Qs]
    rw [Qqv hs hp, Qs, Qqw hs, Qs, Xl (x := Xv s p * XW s (j : Int)) (by omega), Xl (x := f j + Xv s p * XW s (j : Int)) (by omega), XC j (by omega)]
    simp only [Int.toNat_natCast]
    rw [QLa m j hj f (fun i => f i + Xv s p * XW s (i : Int))]) (by
    unfold Qds
    simp only [hlen, XF, cond_false, eN])
  simp only [e0] at key
  exact key
def Qbb (n : FeedNet) (f : Nat → Int) : List Int := (List.range n.Stations.length).map fun k => ZY n.Sections f k n.Sections.length
theorem QCb {n : FeedNet} (hn : NetOk n) {l : List feed_run} (hl : l.length ≤ 8) (h : ∀ r ∈ l, YA n.Sections.length r) {t : Int} (ht : 0 ≤ t) (ht2 : t ≤ 100000) : Qdt ⟨n⟩ l t = some (Qbb n (QY l t)) := by
  have h1 := hn.st6
  have h2 := hn.se10
  have hs : ∀ s ∈ n.Sections, Js s := fun s hx => Qkg (hn.sec s hx)
  have hf : ∀ j, -160000 ≤ QY l t j ∧ QY l t j ≤ 160000 := fun j => by have := Qoh h t j; omega
  have hlen : (((List.range n.Sections.length).map (QY l t)).length : Int) = (n.Sections.length : Int) := by simp
  have key : loop (Qfn ⟨n⟩ ((List.range n.Sections.length).map (QY l t))) ((List.range n.Stations.length).map (fun _ => (0 : Int)), 0) = some (Qbb n (QY l t)) :=
    Zo (fun j => ((List.range n.Stations.length).map (fun k => ZY n.Sections (QY l t) k j), (j : Int))) n.Sections.length (fun j hj => by
      have hb : ∀ k, -1000000000000000 ≤ ZY n.Sections (QY l t) k j ∧ ZY n.Sections (QY l t) k j ≤ 1000000000000000 := fun k => by have := Qty hs hf k j; omega
      have hidx : idx ((List.range n.Sections.length).map (QY l t)) (j : Int) = some (QY l t j) := by rw [Xq?]; simp [hj]
      unfold Qfn
      simp only [hlen, XE hj, cond_true, hidx, Qs, Xq hj]
      rw [QBz (hs _ (List.getElem_mem hj)) (hf j) (by omega) hb, Qs, XC j (by omega)]
      congr 3
      apply List.map_congr_left
      intro k _
      simp only [ZY, QGw hj]) (by
      unfold Qfn Qbb
      simp only [hlen, XF, cond_false])
  unfold Qdt
  show (Option.bind (mk (n.Stations.length : Int) (0 : Int)) _) = _
  rw [Qul _ (by omega), Qs, Qvw (by omega) hl h ht ht2, Qs, key]
  rfl
end Go.Gw

end
section
set_option maxRecDepth 4096
namespace Go.Gw
open Go
def pd (t : Int) (s : Nat) (r : feed_run) : List Int := if 0 ≤ t - r.at_ ∧ t - r.at_ ≤ (r.FeedTrain.Steps.length : Int) - 1 then (match r.FeedTrain.Steps[(t - r.at_).toNat]? with | some x => if x.Section = (s : Int) then [x.Power] else [] | none => []) else []
theorem QKm (t : Int) (s : Nat) (r : feed_run) : (pd t s r).sum = ZM r.FeedTrain.Steps (t - r.at_) s := by
  unfold pd ZM
  by_cases h : 0 ≤ t - r.at_ ∧ t - r.at_ ≤ (r.FeedTrain.Steps.length : Int) - 1
  · rw [if_pos h, if_pos h]
    cases hx : r.FeedTrain.Steps[(t - r.at_).toNat]? with
    | none => rfl
    | some x => by_cases hs : x.Section = (s : Int) <;> simp [hs]
  · rw [if_neg h, if_neg h]; rfl
theorem Qix (t : Int) (s : Nat) : ∀ l : List feed_run, (l.flatMap (pd t s)).sum = QY l t s
  | [] => rfl
  | r :: l => by
    rw [List.flatMap_cons, List.sum_append, Qix t s l, QKm]
    simp [QY]
end Go.Gw

end
section
set_option maxRecDepth 4096
namespace Go.Gw
open Go
end Go.Gw

end
section
set_option maxRecDepth 4096
namespace Go.Gw
open Go
def Qbk (n : FeedNet) (l : List FeedDeparture) : Int := if 6 < l.length then 8 else match XS (YP n l) l.length with | some i => YP n l i | none => 0
def Zm (n : FeedNet) (l : List FeedDeparture) : Int := if (Zp n).2 ≠ 0 then (Zp n).2 else Qbk n l
def JG (t : Int) : Int := if 0 ≤ t ∧ t ≤ 1012 then 0 else 2
theorem Qdd (a b : Prop) [Decidable a] [Decidable b] : (decide a && decide b) = decide (a ∧ b) := (Bool.decide_and a b).symm
theorem Qra (t : Int) : Qck t = some (JG t) := by
  unfold Qck JG
  rw [Qam, Qs, Jr, Qs, Qdd]
  by_cases h : 0 ≤ t ∧ t ≤ 1012 <;> simp [h]
theorem Qvm {n : FeedNet} (h : NetS n) (l : List FeedDeparture) : Qbn n l = some (⟨n⟩, (if Zm n l = 0 then l.map (Xg n) else []), Zm n l) := by
  unfold Qbn Qcj Zm
  rw [Qqu h, Qs, Qs]
  by_cases h0 : (Zp n).2 = 0
  · simp only [h0, ne_eq, not_true_eq_false, if_false, decide_true, Bool.not_true, cond_false]
    rw [show feed_net.mk (FeedNet.mk n.Stations n.Sections n.Trains) = feed_net.mk n from rfl, QCf n l h.tr, Qs]
    unfold Qbk
    by_cases h6 : 6 < l.length
    · simp [h6]
    · rw [if_neg h6, if_neg h6]
      rcases J7 (YP n l) l.length with ⟨e, _⟩ | ⟨i, e, _, hi, _⟩
      · rw [e]; simp
      · rw [e]; simp [hi]
  · simp [h0]
theorem QGs (a b : Int) : Y0 [a, b] = if a ≠ 0 then a else b := by
  unfold Y0 Y0 Y0; by_cases h : a = 0 <;> by_cases h2 : b = 0 <;> simp [h, h2]
theorem QGt (a b c : Int) : Y0 [a, b, c] = if a ≠ 0 then a else if b ≠ 0 then b else c := by
  unfold Y0 Y0 Y0 Y0; by_cases h : a = 0 <;> by_cases h2 : b = 0 <;> by_cases h3 : c = 0 <;> simp [h, h2, h3]
theorem Qhz {n : FeedNet} {l : List FeedDeparture} (h : Zm n l = 0) : NetOk n ∧ l.length ≤ 6 ∧ ∀ d ∈ l, YA n.Sections.length (Xg n d) ∧ 0 ≤ Ye n d.Train := by
  unfold Zm at h
  by_cases h0 : (Zp n).2 = 0
  · have hn := Qjh h0
    simp only [h0, ne_eq, not_true_eq_false, if_false] at h
    unfold Qbk at h
    by_cases h6 : 6 < l.length
    · rw [if_pos h6] at h; omega
    · rw [if_neg h6] at h
      refine ⟨hn, by omega, fun d hd => ?_⟩
      obtain ⟨k, hk, rfl⟩ := List.getElem_of_mem hd
      have hz := Qni h k hk
      unfold YP at hz
      rw [List.getElem?_eq_getElem hk] at hz
      exact ⟨QLp hn hz, Qii hz⟩
  · rw [if_pos h0] at h; exact absurd h h0
end Go.Gw

end
section
set_option maxRecDepth 4096
namespace Go.Gw
open Go
def onI (r : feed_run) (t : Int) : Bool := decide (0 ≤ t - r.at_) && decide (t - r.at_ ≤ (r.FeedTrain.Steps.length : Int) - 1)
theorem QHf {l : List feed_run} {t : Int} (h : l.any (fun r => onI r t) = false) : QY l t = fun _ => 0 := by
  funext s
  unfold QY
  induction l with
  | nil => rfl
  | cons r l ih =>
    rw [List.any_cons, Bool.or_eq_false_iff] at h
    rw [List.map_cons, List.sum_cons, ih h.2]
    have h1 := h.1
    unfold onI at h1
    rw [Qdd, decide_eq_false_iff_not] at h1
    unfold ZM
    rw [if_neg h1]; rfl
structure Rt (n : FeedNet) (l : List FeedDeparture) : Prop where
  ne : NetOk n
  tr : n.Trains.length < 1000
  l6 : l.length ≤ 6
  ru : ∀ d ∈ l, YA n.Sections.length (Xg n d) ∧ 0 ≤ Ye n d.Train
theorem QLn {n : FeedNet} (h : NetS n) {l : List FeedDeparture} (hb : Zm n l = 0) : Rt n l := ⟨(Qhz hb).1, h.tr, (Qhz hb).2.1, (Qhz hb).2.2⟩
section
variable {n : FeedNet} {l : List FeedDeparture} (h : Rt n l)
include h
theorem Qwk : ∀ r ∈ l.map (Xg n), YA n.Sections.length r := fun r hr => by obtain ⟨d, hd2, rfl⟩ := List.mem_map.1 hr; exact (h.ru d hd2).1
end
end Go.Gw

end
section
set_option maxRecDepth 4096
namespace Go.Gw
open Go
def fsO {α ρ μ : Type} (o : Option α) (res : α → ρ) (u : μ) : ρ ⊕ μ := match o with | some a => .inl (res a) | none => .inr u
theorem Qug {α σ ρ μ : Type} {step : σ → Option (σ ⊕ (ρ ⊕ μ))} (S : Nat → σ) (n : Nat) (f : Nat → Option α) (res : α → ρ) (o : μ)
    (hs : ∀ k, k < n → step (S k) = some (match f k with | some a => .inr (.inl (res a)) | none => .inl (S (k + 1))))
    (he : step (S n) = some (.inr (.inr o))) : loop step (S 0) = some (fsO ((List.range n).findSome? f) res o) := by
  have key : ∀ j k, k + j = n → loop step (S k) = some (fsO ((List.range' k j).findSome? f) res o) := by
    intro j
    induction j with
    | zero => intro k hk; obtain rfl : k = n := by omega
              exact Qab he
    | succ j ih =>
      intro k hk
      have h1 := hs k (by omega)
      rw [List.range'_succ, List.findSome?_cons]
      cases hf : f k with
      | some a => rw [hf] at h1; exact Qab h1
      | none => rw [hf] at h1; rw [Qgf h1]; exact ih (k + 1) (by omega)
  rw [List.range_eq_range']
  exact key n 0 (by omega)
theorem Qnk {α β : Type} (f : β → α → β) (a : β) (l : List α) (k : Nat) (hk : k < l.length) : (l.take (k + 1)).foldl f a = f ((l.take k).foldl f a) l[k] := by
  rw [List.take_add_one, List.getElem?_eq_getElem hk, List.foldl_append]; rfl
def JP (a : Int) (r : feed_run) : Int := if r.at_ < a then r.at_ else a
def JN (a : Int) (r : feed_run) : Int := if a < r.at_ + 12 then r.at_ + 12 else a
def Y1 (rs : List feed_run) : Int := rs.foldl JP 1012
def JO (rs : List feed_run) : Int := rs.foldl JN 0
def Qco (n : FeedNet) (k : Nat) : Int := (n.Stations[k]?.map (·.Limit)).getD 0
def ldR (n : FeedNet) (rs : List feed_run) (t : Int) (k : Nat) : Int := ZY n.Sections (QY rs t) k n.Sections.length
def ov1 (n : FeedNet) (rs : List feed_run) (t : Int) (k : Nat) : Option FeedPeak := if 1000000 * Qco n k < ldR n rs t k then some (FeedPeak.mk t k (ldR n rs t k)) else none
def ovS (n : FeedNet) (rs : List feed_run) (t : Int) : Option FeedPeak := (List.range n.Stations.length).findSome? (ov1 n rs t)
def JA (n : FeedNet) (rs : List feed_run) : Option FeedPeak := (List.range (JO rs - Y1 rs + 1).toNat).findSome? fun (j : Nat) => ovS n rs (Y1 rs + j)
def pkB (o : Option FeedPeak) : FeedPeak × Bool := match o with | some p => (p, true) | none => (FeedPeak.mk 0 0 0, false)
theorem QHt {rs : List feed_run} (h : ∀ r ∈ rs, 0 ≤ r.at_ ∧ r.at_ ≤ 1000) : 0 ≤ Y1 rs ∧ Y1 rs ≤ 1012 := by
  have key : ∀ (l : List feed_run) a, (∀ r ∈ l, 0 ≤ r.at_ ∧ r.at_ ≤ 1000) → 0 ≤ a ∧ a ≤ 1012 → 0 ≤ l.foldl JP a ∧ l.foldl JP a ≤ 1012 := by
    intro l
    induction l with
    | nil => intro a _ h; exact h
    | cons r l ih =>
      intro a hr ha
      have := hr r (List.mem_cons_self ..)
      exact ih _ (fun x hx => hr x (List.mem_cons_of_mem _ hx)) (by unfold JP; split <;> omega)
  exact key rs 1012 h (by omega)
theorem QHd {rs : List feed_run} (h : ∀ r ∈ rs, 0 ≤ r.at_ ∧ r.at_ ≤ 1000) : 0 ≤ JO rs ∧ JO rs ≤ 1012 := by
  have key : ∀ (l : List feed_run) a, (∀ r ∈ l, 0 ≤ r.at_ ∧ r.at_ ≤ 1000) → 0 ≤ a ∧ a ≤ 1012 → 0 ≤ l.foldl JN a ∧ l.foldl JN a ≤ 1012 := by
    intro l
    induction l with
    | nil => intro a _ h; exact h
    | cons r l ih =>
      intro a hr ha
      have := hr r (List.mem_cons_self ..)
      exact ih _ (fun x hx => hr x (List.mem_cons_of_mem _ hx)) (by unfold JN; split <;> omega)
  exact key rs 0 h (by omega)
theorem Qig (x y : Int) : Qbj x y = some (if x < y then -1 else if y < x then 1 else 0) := by
  unfold Qbj Qfg
  simp only [decide_true, Bool.not_true, Qs, cond_false]
  by_cases h1 : x < y
  · simp [h1]
  · by_cases h2 : y < x <;> simp [h1, h2]
def mnF (a r : feed_run) : feed_run := if r.at_ < a.at_ then r else a
def JQ (a r : feed_run) : feed_run := if a.at_ < r.at_ then r else a
def J9 (r : feed_run) : ByteArray × Int × Int × List FeedStep × Int := (r.FeedTrain.Name, r.FeedTrain.Earliest, r.FeedTrain.Latest, r.FeedTrain.Steps, r.at_)
theorem QIe (r0 : feed_run) (l : List feed_run) (hl : l.length < 1000000) : Qha (r0 :: l) = some (l.foldl mnF r0) := by
  have key : loop (Qgz (r0 :: l)) (1, J9 r0) = some (J9 (l.foldl mnF r0)) :=
    Zo (fun k => ((k : Int) + 1, J9 ((l.take k).foldl mnF r0))) l.length (fun k hk => by
      unfold Qgz Qdu J9
      have hi : idx (r0 :: l) ((k : Int) + 1) = some l[k] := by
        rw [show (k : Int) + 1 = ((k + 1 : Nat) : Int) by omega, Xq (show k + 1 < (r0 :: l).length by simpa using hk)]; rfl
      simp only [hi, Qs, Qig, Qnk _ _ _ _ hk]
      rw [decide_eq_true (by simp; omega), cond_true, Xl (x := (k : Int) + 1 + 1) (by omega)]
      generalize List.foldl mnF r0 (List.take k l) = a
      unfold mnF
      by_cases h1 : l[k].at_ < a.at_
      · simp [h1]
      · by_cases h2 : a.at_ < l[k].at_ <;> simp [h1, h2]) (by
      unfold Qgz
      rw [List.take_length]
      unfold J9
      simp)
  unfold Qha
  rw [decide_eq_false (show ¬ (((r0 :: l).length : Nat) : Int) < 1 by simp; omega), cond_false, Qs, show idx (r0 :: l) 0 = some r0 from rfl, Qs]
  exact (congrArg (fun o => Option.bind o _) key).trans rfl
theorem QHz (r0 : feed_run) (l : List feed_run) (hl : l.length < 1000000) : Qgy (r0 :: l) = some (l.foldl JQ r0) := by
  have key : loop (Qgx (r0 :: l)) (1, J9 r0) = some (J9 (l.foldl JQ r0)) :=
    Zo (fun k => ((k : Int) + 1, J9 ((l.take k).foldl JQ r0))) l.length (fun k hk => by
      unfold Qgx Qdu J9
      have hi : idx (r0 :: l) ((k : Int) + 1) = some l[k] := by
        rw [show (k : Int) + 1 = ((k + 1 : Nat) : Int) by omega, Xq (show k + 1 < (r0 :: l).length by simpa using hk)]; rfl
      simp only [hi, Qs, Qig, Qnk _ _ _ _ hk]
      rw [decide_eq_true (by simp; omega), cond_true, Xl (x := (k : Int) + 1 + 1) (by omega)]
      generalize List.foldl JQ r0 (List.take k l) = a
      unfold JQ
      by_cases h1 : l[k].at_ < a.at_
      · have h2 : ¬ a.at_ < l[k].at_ := by omega
        simp [h1, h2]
      · by_cases h2 : a.at_ < l[k].at_ <;> simp [h1, h2]) (by
      unfold Qgx
      rw [List.take_length]
      unfold J9
      simp)
  unfold Qgy
  rw [decide_eq_false (show ¬ (((r0 :: l).length : Nat) : Int) < 1 by simp; omega), cond_false, Qs, show idx (r0 :: l) 0 = some r0 from rfl, Qs]
  exact (congrArg (fun o => Option.bind o _) key).trans rfl
theorem QIg (r0 : feed_run) (l : List feed_run) : (l.foldl mnF r0).at_ = l.foldl JP r0.at_ := by
  induction l generalizing r0 with
  | nil => rfl
  | cons r l ih => rw [List.foldl_cons, List.foldl_cons, ih]; congr 1; unfold mnF JP; split <;> rfl
theorem QIh (r0 : feed_run) (l : List feed_run) : (l.foldl JQ r0).at_ + 12 = l.foldl JN (r0.at_ + 12) := by
  induction l generalizing r0 with
  | nil => rfl
  | cons r l ih => rw [List.foldl_cons, List.foldl_cons, ih]; congr 1; unfold JQ JN; split <;> split <;> first | rfl | omega
section
variable {n : FeedNet} {rs : List feed_run} (hn : NetOk n) (hl : rs.length ≤ 8) (h : ∀ r ∈ rs, YA n.Sections.length r)
include hn
theorem QHs {k : Nat} (hk : k < n.Stations.length) : w64 (1000000 * n.Stations[k].Limit) = 1000000 * Qco n k := by
  have := hn.lim _ (List.getElem_mem hk)
  unfold Qco
  rw [Xl (by omega), List.getElem?_eq_getElem hk]; rfl
include hl h
theorem QCc {t : Int} (ht : 0 ≤ t) (ht2 : t ≤ 1012) {R : feed_run} (hR : t ≤ R.at_ + 12) (hR2 : R.at_ ≤ 100000) (hR3 : -100000 ≤ R.at_): Qdw rs ⟨n⟩ R t = some (match ovS n rs t with | some p => .inr (.inl (p, true)) | none => .inl (t + 1)) := by
  have hlen : ((Qbb n (QY rs t)).length : Int) = (n.Stations.length : Int) := by unfold Qbb; simp
  have hst := hn.st6
  have key : loop (Qdv ⟨n⟩ (Qbb n (QY rs t)) t) 0 = some (fsO (ovS n rs t) (fun p => .inr (.inl (p, true))) ()) :=
    Qug (ρ := Int ⊕ ((FeedPeak × Bool) ⊕ Unit)) (step := Qdv ⟨n⟩ (Qbb n (QY rs t)) t) (fun k => (k : Int)) n.Stations.length (ov1 n rs t) (fun p => .inr (.inl (p, true))) () (fun k hk => by
      have hi : idx (Qbb n (QY rs t)) (k : Int) = some (ldR n rs t k) := by
        unfold Qbb; rw [Xq?, List.getElem?_map, List.getElem?_range hk]; rfl
      unfold Qdv ov1
      rw [hlen, XE hk, cond_true, hi, Qs]
      simp only [Xq hk, Qs]
      rw [QHs hn hk, XC k (by omega)]
      by_cases hc : 1000000 * Qco n k < ldR n rs t k
      · rw [decide_eq_true hc, if_pos hc]; rfl
      · rw [decide_eq_false hc, if_neg hc]; rfl) (by
      unfold Qdv
      rw [hlen, XF]; rfl)
  unfold Qdw
  rw [Xl (x := R.at_ + 12) (by omega), decide_eq_true hR, cond_true, QCb hn hl h ht (by omega), Qs, key, Qs, Xl (x := t + 1) (by omega)]
  cases ovS n rs t <;> rfl
theorem Qqx : Qbm ⟨n⟩ rs = some (pkB (JA n rs)) := by
  cases rs with
  | nil => simp [Qbm, JA, JO, Y1, pkB]
  | cons r0 l =>
    have hat : ∀ r ∈ r0 :: l, 0 ≤ r.at_ ∧ r.at_ ≤ 1000 := fun r hr => ⟨(h r hr).2.2.1, (h r hr).2.2.2⟩
    have h0 := hat r0 (List.mem_cons_self ..)
    have hlo : (l.foldl mnF r0).at_ = Y1 (r0 :: l) := by
      rw [QIg]; unfold Y1; rw [List.foldl_cons]; congr 1; unfold JP; split <;> omega
    have hhi : (l.foldl JQ r0).at_ + 12 = JO (r0 :: l) := by
      rw [QIh]; unfold JO; rw [List.foldl_cons]; congr 1; unfold JN; split <;> omega
    have b1 := QHt hat
    have b2 := QHd hat
    have hlen : l.length < 1000000 := by rw [List.length_cons] at hl; omega
    have key := Qug (step := Qdw (r0 :: l) ⟨n⟩ (l.foldl JQ r0)) (fun k => Y1 (r0 :: l) + (k : Int)) (JO (r0 :: l) - Y1 (r0 :: l) + 1).toNat (fun (j : Nat) => ovS n (r0 :: l) (Y1 (r0 :: l) + j)) (fun p => (p, true)) () (fun k hk => by
      have hk2 : Y1 (r0 :: l) + (k : Int) ≤ JO (r0 :: l) := by omega
      rw [QCc hn hl h (R := l.foldl JQ r0) (by omega) (by omega) (by omega) (by omega) (by omega)]
      cases ovS n (r0 :: l) (Y1 (r0 :: l) + (k : Int)) with
      | some p => rfl
      | none => simp only; congr 2; omega) (by
      unfold Qdw
      rw [Xl (x := (l.foldl JQ r0).at_ + 12) (by omega), decide_eq_false (by omega)]; rfl)
    unfold Qbm
    rw [decide_eq_false (show ¬ ((((r0 :: l).length : Nat) : Int) = 0) by simp; omega), cond_false, QIe r0 l hlen, Qs, QHz r0 l hlen, Qs, hlo]
    simp only [Int.natCast_zero, Int.add_zero] at key
    rw [key, Qs]
    unfold JA
    cases (List.range (JO (r0 :: l) - Y1 (r0 :: l) + 1).toNat).findSome? (fun (j : Nat) => ovS n (r0 :: l) (Y1 (r0 :: l) + j)) <;> rfl
end
section
variable {n : FeedNet} {l : List FeedDeparture} (h : Rt n l)
include h
end
theorem Qzl {n : FeedNet} (h : NetS n) (l : List FeedDeparture) : Qip n l = some (if Zm n l ≠ 0 then (FeedPeak.mk 0 0 0, Zm n l) else ((pkB (JA n (l.map (Xg n)))).1, bif (pkB (JA n (l.map (Xg n)))).2 then 0 else 12)) := by
  unfold Qip
  rw [Qvm h, Qs]
  by_cases hb : Zm n l = 0
  · have hR := QLn h hb
    simp only [hb, ne_eq, not_true_eq_false, if_false, if_true, decide_true, Bool.not_true, cond_false]
    rw [show feed_net.mk (FeedNet.mk n.Stations n.Sections n.Trains) = feed_net.mk n from rfl, Qqx hR.ne (by rw [List.length_map]; have := hR.l6; omega) (Qwk hR), Qs, Jr, Qs]
  · simp [hb]
end Go.Gw

end
section
set_option maxRecDepth 4096
namespace Go.Gw
open Go
def QF (g : Nat → Int) : Nat → Int
  | 0 => 0
  | k + 1 => QF g k + g k
theorem Jo {g : Nat → Int} {c : Int} (h : ∀ j, -c ≤ g j ∧ g j ≤ c) : ∀ k : Nat, -(c * (k : Int)) ≤ QF g k ∧ QF g k ≤ c * (k : Int)
  | 0 => by simp [QF]
  | k + 1 => by
    have h1 := Jo h k
    have h2 := h k
    simp only [QF]
    rw [show c * ((k + 1 : Nat) : Int) = c * (k : Int) + c by rw [Int.natCast_add, Int.mul_add]; simp]
    omega
theorem Qou {g : Nat → Int} (h : ∀ j, g j = 0) : ∀ k, QF g k = 0
  | 0 => rfl
  | k + 1 => by simp only [QF]; rw [Qou h k, h k]; rfl
theorem Qhd {g g' : Nat → Int} : ∀ k, (∀ j, j < k → g j = g' j) → QF g k = QF g' k
  | 0, _ => rfl
  | k + 1, h => by simp only [QF]; rw [Qhd k (fun j hj => h j (by omega)), h k (by omega)]
theorem Qku (g g' : Nat → Int) : ∀ k, QF (fun j => g j + g' j) k = QF g k + QF g' k
  | 0 => rfl
  | k + 1 => by simp only [QF]; rw [Qku g g' k]; omega
def Xn (x : Int) : Int := if x < 0 then 0 else x
def YE (x : Int) : Int := if x < -x then -x else x
theorem Qgg {x c : Int} (hc : 0 ≤ c) (h : x ≤ c) : 0 ≤ Xn x ∧ Xn x ≤ c := by unfold Xn; split <;> omega
theorem Qup {x c : Int} (h : -c ≤ x ∧ x ≤ c) : 0 ≤ YE x ∧ YE x ≤ c := by unfold YE; split <;> omega
def Yq (t : Int) (r : feed_run) : Int := if 0 ≤ t - r.at_ ∧ t - r.at_ ≤ (r.FeedTrain.Steps.length : Int) - 1 then (match r.FeedTrain.Steps[(t - r.at_).toNat]? with | some x => x.Power | none => 0) else 0
theorem Qvx {m : Nat} {r : feed_run} (h : YA m r) (t : Int) : -20000 ≤ Yq t r ∧ Yq t r ≤ 20000 := by
  unfold Yq
  split
  · split
    · rename_i y hy
      have := h.1 y (List.mem_of_getElem? hy); omega
    · omega
  · omega
theorem QNp {m : Nat} {r : feed_run} (h : YA m r) {t : Int} (ht : 0 ≤ t) (ht2 : t ≤ 100000) : ∃ o, Qbo r t = some o ∧ o.1.Power = Yq t r := by
  obtain ⟨h1, h2, h3, h4⟩ := h
  unfold Qbo
  rw [Xl (by omega), Xl (by omega), Qam, Qs]
  by_cases hin : 0 ≤ t - r.at_ ∧ t - r.at_ ≤ (r.FeedTrain.Steps.length : Int) - 1
  · have e : (decide (0 ≤ t - r.at_) && decide (t - r.at_ ≤ (r.FeedTrain.Steps.length : Int) - 1)) = true := by
      rw [decide_eq_true hin.1, decide_eq_true hin.2]; rfl
    have hk : (t - r.at_).toNat < r.FeedTrain.Steps.length := by omega
    have hidx : idx r.FeedTrain.Steps (t - r.at_) = some r.FeedTrain.Steps[(t - r.at_).toNat] := by
      unfold idx; rw [if_pos hin.1, List.getElem?_eq_getElem hk]
    rw [e]
    simp only [Bool.not_true, cond_false]
    rw [hidx, Qs]
    refine ⟨_, rfl, ?_⟩
    unfold Yq
    rw [if_pos hin, List.getElem?_eq_getElem hk]
  · have e : (decide (0 ≤ t - r.at_) && decide (t - r.at_ ≤ (r.FeedTrain.Steps.length : Int) - 1)) = false := by
      rw [Bool.eq_false_iff]; intro e; simp at e; exact hin (by omega)
    rw [e]
    exact ⟨_, rfl, by unfold Yq; rw [if_neg hin]⟩
def fR (f : Int → Int) (R : List feed_run) (t : Int) : Int := (R.map fun r => f (Yq t r)).sum
def fU (x : Int) : Int := 1000000 * Xn x
def fB (x : Int) : Int := 1000000 * Xn (-x)
theorem Qim {x : Int} (h : -20000 ≤ x ∧ x ≤ 20000) : 0 ≤ fU x ∧ fU x ≤ 20000000000 := by
  have := Qgg (x := x) (c := 20000) (by omega) h.2; unfold fU; omega
theorem Qil {x : Int} (h : -20000 ≤ x ∧ x ≤ 20000) : 0 ≤ fB x ∧ fB x ≤ 20000000000 := by
  have := Qgg (x := -x) (c := 20000) (by omega) (by omega); unfold fB; omega
theorem Qcf {m : Nat} {f : Int → Int} (hf : ∀ x, -20000 ≤ x ∧ x ≤ 20000 → 0 ≤ f x ∧ f x ≤ 20000000000) (t : Int) : ∀ {R : List feed_run}, (∀ r ∈ R, YA m r) → 0 ≤ fR f R t ∧ fR f R t ≤ 20000000000 * (R.length : Int)
  | [], _ => by simp [fR]
  | r :: R, h => by
    have h1 := Qcf hf t (R := R) fun r hr => h r (List.mem_cons_of_mem _ hr)
    have h2 := hf _ (Qvx (h r List.mem_cons_self) t)
    unfold fR at *
    rw [List.map_cons, List.sum_cons, List.length_cons]
    omega
theorem Qqz (f : Int → Int) {R : List feed_run} {t : Int} {k : Nat} (hk : k < R.length) : fR f (R.take (k + 1)) t = fR f (R.take k) t + f (Yq t R[k]) := by
  unfold fR
  rw [List.take_add_one, List.getElem?_eq_getElem hk, List.map_append, List.sum_append]
  simp
theorem QAi {m : Nat} (N : feed_net) (e : Int) {R : List feed_run} (hR : ∀ r ∈ R, YA m r) (hl : R.length ≤ 8) {t : Int} (ht : 0 ≤ t) (ht2 : t ≤ 100000) {u b : Int} (hu : -1000000000000000000 ≤ u ∧ u ≤ 1000000000000000000) (hb : -1000000000000000000 ≤ b ∧ b ≤ 1000000000000000000) :
    loop (Qdl (N, R, e) t) (0, u, b) = some (u + fR fU R t, b + fR fB R t) := by
  have key := Zo (step := Qdl (N, R, e) t) (o := (u + fR fU R t, b + fR fB R t)) (fun k => ((k : Int), u + fR fU (R.take k) t, b + fR fB (R.take k) t)) R.length (fun k hk => by
    obtain ⟨o, ho, hp⟩ := QNp (hR _ (List.getElem_mem hk)) ht ht2
    have hT : ∀ r ∈ R.take k, YA m r := fun r hr => hR r (List.mem_of_mem_take hr)
    have b1 := Qcf (f := fU) (fun x h => Qim h) t hT
    have b2 := Qcf (f := fB) (fun x h => Qil h) t hT
    have bp := Qvx (hR _ (List.getElem_mem hk)) t
    have b3 := Qim bp
    have b4 := Qil bp
    have hlk : (R.take k).length ≤ 8 := by rw [List.length_take]; omega
    rw [Qqz fU hk, Qqz fB hk]
    unfold Qdl
    simp only [XE hk, cond_true, Xq hk, Qs, ho, hp]
    rw [Xl (x := 0 - Yq t R[k]) (by omega), show (0 : Int) - Yq t R[k] = -Yq t R[k] by omega]
    have e1 : (1000000 * if Yq t R[k] < 0 then 0 else Yq t R[k]) = fU (Yq t R[k]) := rfl
    have e2 : (1000000 * if -Yq t R[k] < 0 then 0 else -Yq t R[k]) = fB (Yq t R[k]) := rfl
    rw [e1, e2, Xl (x := fU (Yq t R[k])) (by omega), Xl (x := fB (Yq t R[k])) (by omega), Xl (x := u + fR fU (R.take k) t + fU (Yq t R[k])) (by omega), Xl (x := b + fR fB (R.take k) t + fB (Yq t R[k])) (by omega), XC k (by omega), Int.add_assoc, Int.add_assoc]) (by
    unfold Qdl
    simp only [XF, cond_false, List.take_length])
  simpa [fR] using key
def gK (n : FeedNet) (s : FeedSection) (d : Int) (w : Bool) (k : Nat) : Int := (n.Stations[k]?.map fun st => if st.Takes = w then XW s (k : Int) * Xn (-d) else 0).getD 0
theorem Qnn (n : FeedNet) {s : FeedSection} (hs : Js s) {d : Int} (hd : -240000000 ≤ d ∧ d ≤ 240000000) (w : Bool) (k : Nat) : -240000000000 ≤ gK n s d w k ∧ gK n s d w k ≤ 240000000000 := by
  unfold gK
  cases n.Stations[k]? with
  | none => simp
  | some st =>
    have h1 := Qbr (a := XW s (k : Int)) (b := Xn (-d)) (m := 1000) (n := 240000000) (Qkh hs k) (by have := Qgg (x := -d) (c := 240000000) (by omega) (by omega); omega)
    simp only [Option.map_some, Option.getD_some]
    split <;> omega
theorem Qno (n : FeedNet) (s : FeedSection) (d : Int) (w : Bool) {k : Nat} (hk : k < n.Stations.length) : gK n s d w k = if n.Stations[k].Takes = w then XW s (k : Int) * Xn (-d) else 0 := by
  unfold gK; rw [List.getElem?_eq_getElem hk]; rfl
theorem QAj {n : FeedNet} (hn : n.Stations.length ≤ 6) {s : FeedSection} (hs : Js s) {d : Int} (hd : -240000000 ≤ d ∧ d ≤ 240000000) {u b : Int} (hu : -1000000000000000000 ≤ u ∧ u ≤ 1000000000000000000) (hb : -1000000000000000000 ≤ b ∧ b ≤ 1000000000000000000) :
    loop (Qdm s n d) (0, u, b) = some (u + QF (gK n s d true) n.Stations.length, b + QF (gK n s d false) n.Stations.length) := by
  have key := Zo (step := Qdm s n d) (o := (u + QF (gK n s d true) n.Stations.length, b + QF (gK n s d false) n.Stations.length)) (fun k => ((k : Int), u + QF (gK n s d true) k, b + QF (gK n s d false) k)) n.Stations.length (fun k hk => by
    have b1 := Jo (fun j => Qnn n hs hd true j) k
    have b2 := Jo (fun j => Qnn n hs hd false j) k
    have hm := Qbr (a := XW s (k : Int)) (b := Xn (-d)) (m := 1000) (n := 240000000) (Qkh hs k) (by have := Qgg (x := -d) (c := 240000000) (by omega) (by omega); omega)
    unfold Qdm
    simp only [XE hk, cond_true, Xq hk, Qs]
    rw [Qqw hs, Qs, Xl (x := 0 - d) (by omega), show (0 : Int) - d = -d by omega]
    have e1 : (if -d < 0 then 0 else -d) = Xn (-d) := rfl
    rw [e1, Xl (x := XW s (k : Int) * Xn (-d)) (by omega), XC k (by omega)]
    simp only [QF, Qno n s d _ hk]
    cases n.Stations[k].Takes with
    | true =>
      rw [cond_true, Xl (by omega), if_pos rfl, if_neg (by decide), Int.add_assoc, Int.add_zero]
    | false =>
      rw [cond_false, Xl (by omega), if_pos rfl, if_neg (by decide), Int.add_assoc, Int.add_zero]) (by
    unfold Qdm
    simp only [XF, cond_false])
  simpa [QF] using key
end Go.Gw

end
section
set_option maxRecDepth 4096
namespace Go.Gw
open Go
/-! ### Lists, compared -/
def YD : List Int → List Int → Int
  | [], [] => 0
  | [], _ :: _ => -1
  | _ :: _, [] => 1
  | x :: xs, y :: ys => if x < y then -1 else if y < x then 1 else YD xs ys
theorem Que : ∀ a, YD a a = 0
  | [] => rfl
  | x :: xs => by simp [YD, Que xs]
theorem Qud : ∀ {a b}, YD a b = 0 → a = b
  | [], [], _ => rfl
  | [], _ :: _, h => by simp [YD] at h
  | _ :: _, [], h => by simp [YD] at h
  | x :: xs, y :: ys, h => by
    unfold YD at h
    by_cases h1 : x < y
    · simp [h1] at h
    · by_cases h2 : y < x
      · simp [h1, h2] at h
      · simp only [h1, h2, if_false] at h
        rw [show x = y by omega, Qud h]
theorem Quc : ∀ a b, YD a b = -YD b a
  | [], [] => rfl
  | [], _ :: _ => rfl
  | _ :: _, [] => rfl
  | x :: xs, y :: ys => by
    unfold YD
    by_cases h1 : x < y
    · have h2 : ¬ y < x := by omega
      simp [h1, h2]
    · by_cases h2 : y < x
      · simp [h1, h2]
      · simp only [h1, h2, if_false]; exact Quc xs ys
theorem Quf : ∀ {a b c}, YD a b ≤ 0 → YD b c ≤ 0 → YD a c ≤ 0
  | [], _, [], _, _ => by simp [YD]
  | [], _, _ :: _, _, _ => by simp [YD]
  | _ :: _, [], _, h, _ => by simp [YD] at h
  | _ :: _, _ :: _, [], _, h => by simp [YD] at h
  | x :: xs, y :: ys, z :: zs, h1, h2 => by
    unfold YD at h1 h2 ⊢
    by_cases a1 : x < y
    · by_cases b1 : y < z
      · rw [if_pos (by omega)]; omega
      · by_cases b2 : z < y
        · simp [b1, b2] at h2
        · rw [if_pos (by omega)]; omega
    · by_cases a2 : y < x
      · simp [a1, a2] at h1
      · obtain rfl : x = y := by omega
        simp only [a1, if_false] at h1
        by_cases b1 : x < z
        · rw [if_pos b1]; omega
        · by_cases b2 : z < x
          · simp [b1, b2] at h2
          · simp only [b1, b2, if_false] at h2 ⊢
            exact Quf h1 h2
theorem QAx (a b : Int) : Qdj [a, b] = some (if a = 0 then b else a) := by
  unfold Qdj
  rw [ZZ [a, b] (fun x => !decide (x = 0)) (fun _ x => x)]
  · by_cases h1 : a = 0
    · by_cases h2 : b = 0 <;> simp [XG, h1, h2, jn0]
    · simp [XG, h1, jn0]
  · intro k hk
    unfold Qif
    rw [XE hk, cond_true, Xq hk, Qs, XC k (by simp at hk; omega)]
  · unfold Qif
    rw [XF]; rfl
theorem QMe (a b : List Int) (ha : a.length < 1000000) : Qej a b = some (YD a b) := by
  have key : ∀ j k, k + j = a.length → k ≤ b.length → (Option.bind (loop (Qcu a b) (k : Int)) fun o => jn0 o fun (_ : Unit) => (bif decide ((a.length : Int) < (b.length : Int)) then some (-1) else some 0)) = some (YD (a.drop k) (b.drop k)) := by
    intro j
    induction j with
    | zero =>
      intro k hk hb
      obtain rfl : k = a.length := by omega
      have e : Qcu a b (a.length : Int) = some (.inr (.inr ())) := by
        unfold Qcu; rw [XF]; rfl
      rw [Qab e, Qs, List.drop_length]
      show (bif decide ((a.length : Int) < (b.length : Int)) then some (-1) else some 0) = _
      by_cases h : a.length < b.length
      · rw [decide_eq_true (by omega), List.drop_eq_getElem_cons h]; rfl
      · rw [decide_eq_false (by omega), List.drop_eq_nil_of_le (by omega)]; rfl
    | succ j ih =>
      intro k hk hb
      have hlt : k < a.length := by omega
      have e : Qcu a b (k : Int) = (bif decide ((b.length : Int) ≤ (k : Int)) then some (.inr (.inl 1)) else Option.bind (idx b (k : Int)) fun el => (bif !decide ((if a[k] < el then (-1 : Int) else if el < a[k] then 1 else 0) = 0) then some (.inr (.inl (if a[k] < el then (-1 : Int) else if el < a[k] then 1 else 0))) else some (.inl ((k + 1 : Nat) : Int)))) := by
        unfold Qcu
        rw [XE hlt, cond_true, Xq hlt, Qs, XC k (by omega)]
        simp only [Qig, Qs]
      rw [List.drop_eq_getElem_cons hlt]
      by_cases hkb : k < b.length
      · rw [decide_eq_false (by omega), cond_false, Xq hkb, Qs] at e
        rw [List.drop_eq_getElem_cons hkb]
        by_cases h1 : a[k] < b[k]
        · simp only [h1, if_true] at e
          rw [Qab e]
          simp [YD, h1, jn0]
        · by_cases h2 : b[k] < a[k]
          · simp only [h1, h2, if_true, if_false] at e
            rw [Qab e]
            simp [YD, h1, h2, jn0]
          · simp only [h1, h2, if_false, decide_true, Bool.not_true, cond_false] at e
            rw [Qgf e, ih (k + 1) (by omega) (by omega)]
            simp [YD, h1, h2]
      · rw [decide_eq_true (by omega), cond_true] at e
        rw [Qab e, List.drop_eq_nil_of_le (show b.length ≤ k by omega)]
        rfl
  unfold Qej
  have := key a.length 0 (by omega) (by omega)
  simpa using this
/-! ### Plans, compared -/
def pc (p o : feed_plan) : Int := if p.delay < o.delay then -1 else if o.delay < p.delay then 1 else YD p.at_ o.at_
def bet (p o : feed_plan) : Bool := p.found && (!o.found || decide (pc p o < 0))
theorem Qpu (p o : feed_plan) (hp : p.at_.length < 1000000) : Qay p o = some (bet p o) := by
  unfold Qay bet pc
  cases p.found with
  | false => rfl
  | true =>
    cases o.found with
    | false => rfl
    | true =>
      simp only [Bool.not_true, Bool.not_false, Bool.and_self, cond_true, Qig, QMe _ _ hp, Qs, QAx]
      by_cases h1 : p.delay < o.delay
      · simp [h1]
      · by_cases h2 : o.delay < p.delay <;> simp [h1, h2]
theorem Qof (p : feed_plan) : pc p p = 0 := by simp [pc, Que]
theorem Qvr (p q : feed_plan) : pc p q = -pc q p := by
  unfold pc
  by_cases h1 : p.delay < q.delay
  · have h2 : ¬ q.delay < p.delay := by omega
    simp [h1, h2]
  · by_cases h2 : q.delay < p.delay
    · simp [h1, h2]
    · simp only [h1, h2, if_false]; exact Quc _ _
theorem Qvs {p q r : feed_plan} (h1 : pc p q ≤ 0) (h2 : pc q r ≤ 0) : pc p r ≤ 0 := by
  unfold pc at *
  by_cases a1 : p.delay < q.delay
  · by_cases b1 : q.delay < r.delay
    · rw [if_pos (by omega)]; omega
    · by_cases b2 : r.delay < q.delay
      · simp [b1, b2] at h2
      · rw [if_pos (by omega)]; omega
  · by_cases a2 : q.delay < p.delay
    · simp [a1, a2] at h1
    · simp only [a1, a2, if_false] at h1
      by_cases b1 : q.delay < r.delay
      · rw [if_pos (by omega)]; omega
      · by_cases b2 : r.delay < q.delay
        · simp [b1, b2] at h2
        · simp only [b1, b2, if_false] at h2
          rw [if_neg (by omega), if_neg (by omega)]
          exact Quf h1 h2
theorem QKl {p q : feed_plan} (hp : p.found = true) (hq : q.found = true) (h : pc p q = 0) : p = q := by
  unfold pc at h
  by_cases h1 : p.delay < q.delay
  · simp [h1] at h
  · by_cases h2 : q.delay < p.delay
    · simp [h1, h2] at h
    · simp only [h1, h2, if_false] at h
      have h3 := Qud h
      have h4 : p.delay = q.delay := by omega
      cases p; cases q
      simp only at hp hq h3 h4
      subst hp hq h3 h4
      rfl
def Bst (l : List feed_plan) (B : feed_plan) : Prop := ((∀ p ∈ l, p.found = false) ∧ B.found = false) ∨ (B ∈ l ∧ B.found = true ∧ ∀ q ∈ l, q.found = true → pc B q ≤ 0)
theorem Bst.found_eq {l : List feed_plan} {B B' : feed_plan} (h : Bst l B) (h' : Bst l B') : B.found = B'.found := by
  rcases h with ⟨h1, h2⟩ | ⟨h1, h2, h3⟩
  · rcases h' with ⟨k1, k2⟩ | ⟨k1, k2, k3⟩
    · rw [h2, k2]
    · have := h1 _ k1; rw [k2] at this; cases this
  · rcases h' with ⟨k1, k2⟩ | ⟨k1, k2, k3⟩
    · have := k1 _ h1; rw [h2] at this; cases this
    · rw [h2, k2]
theorem Bst.eq {l : List feed_plan} {B B' : feed_plan} (h : Bst l B) (h' : Bst l B') (hf : B.found = true) : B = B' := by
  have hf' := (h.found_eq h').symm.trans hf
  rcases h with ⟨h1, h2⟩ | ⟨h1, h2, h3⟩
  · rw [h2] at hf; cases hf
  · rcases h' with ⟨k1, k2⟩ | ⟨k1, k2, k3⟩
    · rw [k2] at hf'; cases hf'
    · refine QKl hf hf' ?_
      have a := h3 _ k1 hf'
      have b := k3 _ h1 hf
      rw [Qvr] at b
      omega
theorem Bst.perm {l l' : List feed_plan} (hp : l'.Perm l) {B : feed_plan} (h : Bst l B) : Bst l' B := by
  rcases h with ⟨h1, h2⟩ | ⟨h1, h2, h3⟩
  · exact .inl ⟨fun p hm => h1 p (hp.subset hm), h2⟩
  · exact .inr ⟨hp.symm.subset h1, h2, fun q hq => h3 q (hp.subset hq)⟩
def Yo (b p : feed_plan) : feed_plan := bif bet p b then p else b
def YV : feed_plan := ⟨[], 0, false⟩
theorem Qiy : ∀ (l : List feed_plan), Bst l (l.foldl Yo YV) ∧ ((l.foldl Yo YV).found = false → l.foldl Yo YV = YV) := by
  have key : ∀ (l pre : List feed_plan) (B : feed_plan), Bst pre B → (B.found = false → B = YV) → Bst (pre ++ l) (l.foldl Yo B) ∧ ((l.foldl Yo B).found = false → l.foldl Yo B = YV) := by
    intro l
    induction l with
    | nil => intro pre B h hz; rw [List.append_nil]; exact ⟨h, hz⟩
    | cons p l ih =>
      intro pre B h hz
      rw [List.foldl_cons, show pre ++ p :: l = (pre ++ [p]) ++ l by simp]
      refine ih (pre ++ [p]) _ ?_ ?_
      · unfold Yo bet
        cases hp : p.found with
        | false =>
          simp only [Bool.false_and, cond_false]
          rcases h with ⟨h1, h2⟩ | ⟨h1, h2, h3⟩
          · refine .inl ⟨fun q hq => ?_, h2⟩
            rcases List.mem_append.1 hq with hq | hq
            · exact h1 q hq
            · rw [List.mem_singleton.1 hq]; exact hp
          · refine .inr ⟨List.mem_append_left _ h1, h2, fun q hq hf => ?_⟩
            rcases List.mem_append.1 hq with hq | hq
            · exact h3 q hq hf
            · rw [List.mem_singleton.1 hq, hp] at hf; cases hf
        | true =>
          rcases h with ⟨h1, h2⟩ | ⟨h1, h2, h3⟩
          · simp only [h2, Bool.not_false, Bool.true_or, Bool.and_self, cond_true]
            refine .inr ⟨by simp, hp, fun q hq hf => ?_⟩
            rcases List.mem_append.1 hq with hq | hq
            · rw [h1 q hq] at hf; cases hf
            · rw [List.mem_singleton.1 hq, Qof]; exact Int.le_refl _
          · simp only [h2, Bool.not_true, Bool.false_or, Bool.true_and]
            by_cases hc : pc p B < 0
            · simp only [hc, decide_true, cond_true]
              refine .inr ⟨by simp, hp, fun q hq hf => ?_⟩
              rcases List.mem_append.1 hq with hq | hq
              · exact Qvs (by omega) (h3 q hq hf)
              · rw [List.mem_singleton.1 hq, Qof]; exact Int.le_refl _
            · simp only [hc, decide_false, cond_false]
              refine .inr ⟨List.mem_append_left _ h1, h2, fun q hq hf => ?_⟩
              rcases List.mem_append.1 hq with hq | hq
              · exact h3 q hq hf
              · rw [List.mem_singleton.1 hq, Qvr]; omega
      · unfold Yo
        cases hb : bet p B with
        | true =>
          intro hf
          unfold bet at hb
          rw [cond_true] at hf
          rw [hf] at hb; cases hb
        | false => exact hz
  intro l
  have := key l [] YV (.inl ⟨fun p hp => (by cases hp), rfl⟩) (fun _ => rfl)
  simpa using this
theorem Bst.flat {α : Type} {ks : List α} {f : α → List feed_plan} {g : α → feed_plan} (hg : ∀ k ∈ ks, Bst (f k) (g k)) {B : feed_plan} (h : Bst (ks.map g) B) : Bst (ks.flatMap f) B := by
  rcases h with ⟨h1, h2⟩ | ⟨h1, h2, h3⟩
  · refine .inl ⟨fun p hp => ?_, h2⟩
    obtain ⟨k, hk, hp⟩ := List.mem_flatMap.1 hp
    rcases hg k hk with ⟨a, _⟩ | ⟨_, a, _⟩
    · exact a p hp
    · rw [h1 _ (List.mem_map.2 ⟨k, hk, rfl⟩)] at a; cases a
  · obtain ⟨k, hk, rfl⟩ := List.mem_map.1 h1
    rcases hg k hk with ⟨_, a⟩ | ⟨a1, a2, a3⟩
    · rw [a] at h2; cases h2
    · refine .inr ⟨List.mem_flatMap.2 ⟨k, hk, a1⟩, h2, fun q hq hf => ?_⟩
      obtain ⟨j, hj, hq⟩ := List.mem_flatMap.1 hq
      rcases hg j hj with ⟨b, _⟩ | ⟨b1, b2, b3⟩
      · rw [b q hq] at hf; cases hf
      · exact Qvs (h3 _ (List.mem_map.2 ⟨j, hj, rfl⟩) b2) (b3 q hq hf)
theorem Qtl : ∀ (l : List feed_plan) (b : feed_plan), (∀ p ∈ l, p.at_.length < 1000000) → Zd l b = some (l.foldl Yo b)
  | [], b, _ => rfl
  | p :: l, b, h => by
    rw [Zd, Qpu _ _ (h p (List.mem_cons_self ..)), Qs, Qtl l _ fun q hq => h q (List.mem_cons_of_mem _ hq)]
    rfl
theorem QKg {net : feed_net} {t : FeedTrain} (ht : 0 ≤ t.Earliest ∧ t.Earliest ≤ t.Latest ∧ t.Latest ≤ 1000000000) {res : Nat → feed_plan} (hr : ∀ k, k < (t.Latest - t.Earliest + 1).toNat → Qgl net t k = some (res k) ∧ (res k).at_.length < 1000000) :
    Qax net t = some (((List.range (t.Latest - t.Earliest + 1).toNat).map res).foldl Yo YV) := by
  have hl : ∀ m, m ≤ (t.Latest - t.Earliest + 1).toNat → JB net t m = some ((List.range m).map res) := by
    intro m
    induction m with
    | zero => intro _; rfl
    | succ m ih =>
      intro hm
      rw [JB, ih (by omega), Qs, (hr m (by omega)).1, Qs, List.range_succ, List.map_append]; rfl
  have hall : ∀ l : List feed_plan, l.Perm ((List.range (t.Latest - t.Earliest + 1).toNat).map res) → Zd l YV = some (((List.range (t.Latest - t.Earliest + 1).toNat).map res).foldl Yo YV) := by
    intro l hp
    rw [Qtl l _ fun p hm => ?_]
    · congr 1
      have h1 := Qiy l
      have h2 := Qiy ((List.range (t.Latest - t.Earliest + 1).toNat).map res)
      have h3 := h2.1.perm hp
      cases hf : (l.foldl Yo YV).found with
      | true => exact h1.1.eq h3 hf
      | false => rw [h1.2 hf, h2.2 ((h1.1.found_eq h3).symm.trans hf)]
    · obtain ⟨k, hk, rfl⟩ := List.mem_map.1 (hp.subset hm)
      exact (hr k (List.mem_range.1 hk)).2
  unfold Qax
  rw [if_pos ht, hl _ (Nat.le_refl _), Qs]
  have he : ∃ r, ∀ l : List feed_plan, l.Perm ((List.range (t.Latest - t.Earliest + 1).toNat).map res) → Zd l ⟨[], 0, false⟩ = some r := ⟨_, hall⟩
  rw [dif_pos he]
  have h1 := he.choose_spec _ (List.Perm.refl _)
  have h2 := hall _ (List.Perm.refl _)
  exact h1.symm.trans h2
end Go.Gw

end
