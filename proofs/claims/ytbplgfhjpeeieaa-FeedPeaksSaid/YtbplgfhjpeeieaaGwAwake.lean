/- Laws of the walk. Condition: each theorem says its own. -/
import Derived.Test.YtbplgfhjpeeieaaGwTwin
import Derived.Test.YtbplgfhjpeeieaaGwPlan
import Derived.IntWalk
set_option linter.unusedVariables false
set_option linter.unusedSimpArgs false
set_option linter.unusedSectionVars false
section
set_option maxRecDepth 1000000
namespace Go.Gw
open Go
theorem Qzp : Qtx 60 = some true := by decide +kernel
theorem Qzo : Qha = some true := QGt _ Qzp
end Go.Gw

end
section
set_option linter.unusedSectionVars false
namespace Go.Gw
open Go

theorem XS {x : Int} (h : -9223372036854775808 ≤ x ∧ x ≤ 9223372036854775807) : w64 x = x := Go.IntWalk.i64_in x h

def Runs {α : Type} (e : Option α) (Q : α → Prop) : Prop := ∃ a, e = some a ∧ Q a

section
variable {α β σ μ : Type} {Q : α → Prop} {e e' : Option α}
theorem Runs.some {a : α} (h : Q a) : Runs (some a) Q := ⟨a, rfl, h⟩
theorem Runs.bind {e : Option β} {f : β → Option α} (h : Runs e fun b => Runs (f b) Q) : Runs (e.bind f) Q := by
  obtain ⟨b, rfl, a, ha, hq⟩ := h; exact ⟨a, ha, hq⟩
theorem Runs.mono {Q' : α → Prop} (h : Runs e Q) (hm : ∀ a, Q a → Q' a) : Runs e Q' := by obtain ⟨a, ha, hq⟩ := h; exact ⟨a, ha, hm _ hq⟩
theorem Runs.eq {a : α} (h : Runs e (· = a)) : e = .some a := by obtain ⟨b, hb, rfl⟩ := h; exact hb
theorem Runs.call {e : Option β} {f : β → Option α} {b : β} (h : e = .some b) (hq : Runs (f b) Q) : Runs (e.bind f) Q := by subst h; exact hq
theorem Runs.bif {b : Bool} (ht : b = true → Runs e Q) (hf : b = false → Runs e' Q) : Runs (bif b then e else e') Q := by
  cases b
  · exact hf rfl
  · exact ht rfl
theorem Runs.jl {b : α} {f : μ → Option α} (h : Q b) : Runs (jn0 (.inl b) f) Q := ⟨b, rfl, h⟩
theorem Runs.j {o : α ⊕ μ} {f : μ → Option α} (hl : ∀ b, o = .inl b → Q b) (hr : ∀ m, o = .inr m → Runs (f m) Q) : Runs (jn0 o f) Q := by
  cases o with
  | inl b => exact Runs.jl (hl b rfl)
  | inr m => exact hr m rfl

def Rnd (I : σ → Prop) (m : σ → Nat) (Q : β → Prop) (s : σ) : σ ⊕ β → Prop
  | .inl s' => I s' ∧ m s' < m s
  | .inr o => Q o
theorem Runs.loop {step : σ → Option (σ ⊕ β)} {s : σ} {Q : β → Prop} (I : σ → Prop) (m : σ → Nat) (h0 : I s) (h : ∀ s, I s → Runs (step s) (Rnd I m Q s)) : Runs (Gw.loop step s) Q := by
  generalize hk : m s = k
  induction k using Nat.strongRecOn generalizing s with
  | _ k ih =>
    obtain ⟨x, hx, hq⟩ := h s h0
    cases x with
    | inl s' =>
      rw [Qdv hx]
      exact ih (m s') (by have := hq.2; omega) hq.1 rfl
    | inr o => rw [Qau hx]; exact ⟨o, rfl, hq⟩
theorem ZQ {step : σ → Option (σ ⊕ β)} {o : β} (S : Nat → σ) (n : Nat) (h : ∀ k, k < n → step (S k) = .some (.inl (S (k + 1)))) (he : step (S n) = .some (.inr o)) : Gw.loop step (S 0) = .some o := by
  have key : ∀ j k, j + k = n → Gw.loop step (S k) = .some o := by
    intro j
    induction j with
    | zero => intro k hk; obtain rfl : k = n := by omega
              exact Qau he
    | succ j ih => intro k hk; rw [Qdv (h k (by omega))]; exact ih (k + 1) (by omega)
  exact key n 0 (by omega)

theorem Runs.idx {xs : List β} {i : Int} {f : β → Option α} (h0 : 0 ≤ i) (h1 : i < xs.length) (h : ∀ x, xs[i.toNat]? = .some x → Runs (f x) Q) : Runs ((Gw.idx xs i).bind f) Q := by
  have hl : i.toNat < xs.length := by omega
  have e : Gw.idx xs i = .some xs[i.toNat] := by unfold Gw.idx; rw [if_pos h0, List.getElem?_eq_getElem hl]
  exact Runs.call e (h _ (List.getElem?_eq_getElem hl))
theorem XD {xs : List β} {k : Nat} (h : k < xs.length) : Gw.idx xs (k : Int) = .some xs[k] := by
  unfold Gw.idx; rw [if_pos (by omega), Int.toNat_natCast, List.getElem?_eq_getElem h]
theorem XD? {xs : List β} {k : Nat} : Gw.idx xs (k : Int) = xs[k]? := by
  unfold Gw.idx; rw [if_pos (by omega), Int.toNat_natCast]
theorem JQ {xs ys : List β} (h : xs.length + ys.length ≤ 1073741824) : app xs ys = .some (xs ++ ys) := by unfold app; rw [if_pos h]
end
end Go.Gw

end
section
set_option linter.unusedSectionVars false
namespace Go.Gw
section
variable {α β γ σ ρ : Type}
def X1 (p : α → Bool) (res : Nat → α → ρ) : Nat → List α → ρ ⊕ Unit
  | _, [] => .inr ()
  | k, x :: xs => if p x then .inl (res k x) else X1 p res (k + 1) xs
theorem ZR {step : Int → Option (Int ⊕ (ρ ⊕ Unit))} (xs : List α) (p : α → Bool) (res : Nat → α → ρ)
    (hs : ∀ k (hk : k < xs.length), step (k : Int) = (bif p xs[k] then some (.inr (.inl (res k xs[k]))) else some (.inl ((k + 1 : Nat) : Int))))
    (he : step (xs.length : Int) = some (.inr (.inr ()))) : loop step 0 = some (X1 p res 0 xs) := by
  have key : ∀ j k, j + k = xs.length → loop step (k : Int) = some (X1 p res k (xs.drop k)) := by
    intro j
    induction j with
    | zero =>
      intro k hk
      obtain rfl : k = xs.length := by omega
      rw [List.drop_length]
      exact Qau he
    | succ j ih =>
      intro k hk
      have hlt : k < xs.length := by omega
      rw [List.drop_eq_getElem_cons hlt]
      have := hs k hlt
      cases hp : p xs[k] with
      | true => rw [hp] at this; simp only [X1, hp, if_true]; exact Qau this
      | false => rw [hp] at this; simp only [X1, hp]; rw [Qdv this]; exact ih (k + 1) (by omega)
  have := key xs.length 0 (by omega)
  simpa using this

def fld (f : Nat → γ → α → γ) : Nat → γ → List α → γ
  | _, a, [] => a
  | k, a, x :: xs => fld f (k + 1) (f k a x) xs
def rng (f : Nat → γ → γ) (a : γ) : Nat → γ
  | 0 => a
  | n + 1 => f n (rng f a n)
theorem Qud {step : σ → Option (σ ⊕ β)} (n : Nat) (f : Nat → γ → γ) (S : γ → Nat → σ) (o : γ → β) (Inv : γ → Nat → Prop) (a0 : γ) (h0 : Inv a0 0)
    (hs : ∀ k, k < n → ∀ a, Inv a k → step (S a k) = some (.inl (S (f k a) (k + 1))) ∧ Inv (f k a) (k + 1))
    (he : ∀ a, Inv a n → step (S a n) = some (.inr (o a))) : loop step (S a0 0) = some (o (rng f a0 n)) ∧ Inv (rng f a0 n) n := by
  have key : ∀ k, k ≤ n → Inv (rng f a0 k) k ∧ loop step (S a0 0) = loop step (S (rng f a0 k) k) := by
    intro k
    induction k with
    | zero => intro _; exact ⟨h0, rfl⟩
    | succ k ih =>
      intro hk
      obtain ⟨h1, h2⟩ := ih (by omega)
      have := hs k (by omega) _ h1
      exact ⟨this.2, by rw [h2, Qdv this.1]; rfl⟩
  obtain ⟨h1, h2⟩ := key n (Nat.le_refl _)
  exact ⟨by rw [h2]; exact Qau (he _ h1), h1⟩
theorem XX (k : Nat) (h : k < 4611686018427387904) : w64 ((k : Int) + 1) = ((k + 1 : Nat) : Int) := by rw [XS (by omega)]; omega
theorem XV {k n : Nat} (h : k < n) : decide ((k : Int) < (n : Int)) = true := by simp; omega
theorem XW (n : Nat) : decide ((n : Int) < (n : Int)) = false := by simp
end
end Go.Gw

end
section
set_option maxRecDepth 4096
namespace Go.Gw
open Go

def Zi : List Int → Int
  | [] => 0
  | x :: xs => if x = 0 then Zi xs else x
theorem JW (l : List Int) (hl : l.length < 1073741824) : Y1 l = some (Zi l) := by
  unfold Y1
  rw [ZR l (fun x => !decide (x = 0)) (fun _ x => x)]
  · have key : ∀ (l : List Int) k, (jn0 (X1 (fun x => !decide (x = 0)) (fun _ x => x) k l) fun (_ : Unit) => some 0) = some (Zi l) := by
      intro l
      induction l with
      | nil => intro k; rfl
      | cons x xs ih =>
        intro k
        by_cases h : x = 0
        · simp [X1, Zi, h]; exact ih _
        · simp [X1, Zi, h, jn0]
    simpa using key l 0
  · intro k hk
    unfold Qgk
    rw [XV hk, XD hk, XX k (by omega)]; rfl
  · unfold Qgk
    rw [XW]; rfl
theorem Jr (b : Bool) (e : Int) : X4 b e = some (bif b then 0 else e) := by cases b <;> rfl
theorem Qai (n lo hi : Int) : Zq n lo hi = some (decide (lo ≤ n) && decide (n ≤ hi)) := rfl
theorem J9 (n lo hi : Int) : ZK n lo hi = some (decide (lo ≤ n) && decide (n ≤ hi)) := rfl
theorem QNv (n m : Int) (h : 0 ≤ m) (h2 : m ≤ 9223372036854775807) : Qbt n m = some (decide (-m ≤ n) && decide (n ≤ m)) := by
  unfold Qbt
  rw [XS (by omega), Qai, Int.zero_sub]; rfl
theorem Qit {α : Type} (p : α → Bool) : ∀ (l : List α) (k : Nat), (jn0 (β := Int) (X1 p (fun k _ => (k : Int)) k l) fun (_ : Unit) => some (-1)) = some (match X1 p (fun k _ => (k : Int)) k l with | .inl i => i | .inr _ => -1)
  | l, k => by cases X1 p (fun k _ => (k : Int)) k l <;> rfl
theorem Qob {α : Type} (p : α → Bool) : ∀ (l : List α) (k : Nat), decide (0 ≤ (match X1 p (fun k _ => (k : Int)) k l with | .inl i => i | .inr _ => (-1 : Int))) = l.any p
  | [], k => by simp [X1]
  | x :: xs, k => by
    by_cases h : p x = true
    · simp [X1, h]
    · simp only [X1, h, List.any_cons]
      have := Qob p xs (k + 1)
      simpa [h] using this
theorem J0 {α ρ : Type} {p : α → Bool} {res : Nat → α → ρ} : ∀ (l : List α) (k : Nat), (X1 p res k l = .inr () ∧ l.any p = false) ∨ ∃ j x, X1 p res k l = .inl (res j x) ∧ p x = true ∧ l.any p = true
  | [], k => .inl ⟨rfl, rfl⟩
  | x :: xs, k => by
    by_cases h : p x = true
    · exact .inr ⟨k, x, by simp [X1, h], h, by simp [h]⟩
    · rcases J0 xs (k + 1) (p := p) (res := res) with ⟨h1, h2⟩ | ⟨j, y, h1, h2, h3⟩
      · exact .inl ⟨by simp [X1, h, h1], by simp [h, h2]⟩
      · exact .inr ⟨j, y, by simp [X1, h, h1], h2, by simp [h3]⟩
/-! ### Ladders -/
def QGp (l : FeedLadder) : Bool := (l.Ohms.any fun n => !(decide (1 ≤ n) && decide (n ≤ 500))) || (l.Loads.any fun n => !(decide (-20000 ≤ n) && decide (n ≤ 20000)))
def QQo (l : FeedLadder) : Int := if ¬ (0 < l.Loads.length ∧ l.Ohms.length = l.Loads.length + 1) then 10 else if 8 < l.Loads.length then 8 else if QGp l then 2 else 0
end Go.Gw

end
section
set_option maxRecDepth 4096
namespace Go.Gw
open Go
def XZ (f : Nat → Int) (n : Nat) : Option Nat := (List.range n).find? fun i => decide (f i ≠ 0)
theorem Qbu (f : Nat → Int) (n : Nat) : (XZ f n = none ∧ ∀ j, j < n → f j = 0) ∨ ∃ i, XZ f n = some i ∧ i < n ∧ f i ≠ 0 ∧ ∀ j, j < i → f j = 0 := by
  cases h : XZ f n with
  | none =>
    refine .inl ⟨rfl, fun j hj => ?_⟩
    have := List.find?_eq_none.1 h j (List.mem_range.2 hj)
    simpa using this
  | some i =>
    right
    obtain ⟨h1, h2, h3⟩ := List.find?_range_eq_some.1 h
    exact ⟨i, rfl, List.mem_range.1 h2, by simpa using h1, fun j hj => by have := h3 j hj; simpa using this⟩
theorem Jz {σ ρ μ : Type} {step : σ → Option (σ ⊕ (ρ ⊕ μ))} (S : Nat → σ) (n : Nat) (f : Nat → Int) (res : Nat → Int → ρ) (o : μ)
    (hs : ∀ k, k < n → (∀ j, j < k → f j = 0) → step (S k) = if f k = 0 then some (.inl (S (k + 1))) else some (.inr (.inl (res k (f k))))) (he : (∀ j, j < n → f j = 0) → step (S n) = some (.inr (.inr o))) :
    loop step (S 0) = some (match XZ f n with | some i => .inl (res i (f i)) | none => .inr o) := by
  rcases Qbu f n with ⟨h1, h2⟩ | ⟨i, h1, h2, h3, h4⟩
  · rw [h1]
    exact ZQ S n (fun k hk => by rw [hs k hk fun j hj => h2 j (by omega), if_pos (h2 k hk)]) (he h2)
  · rw [h1]
    exact ZQ S i (fun k hk => by rw [hs k (by omega) fun j hj => h4 j (by omega), if_pos (h4 k hk)]) (by rw [hs i h2 h4, if_neg h3])
/-! ### Names -/
def Qcp (q : Int × Nat) : Bool := (!(((decide (97 ≤ q.1)) && (decide (q.1 ≤ 122))) || ((decide (65 ≤ q.1)) && (decide (q.1 ≤ 90))))) && ((decide ((q.2 : Int) = 0)) || ((!decide (q.1 = 45)) && ((decide (q.1 < 48)) || (decide (57 < q.1)))))
def bi (s : ByteArray) : List Int := bl s
theorem Qfq (s : ByteArray) : (bi s).length = s.size := J8 s
theorem Qtp {s : ByteArray} {k : Nat} (h : k < (bi s).length) : idx (α := Int) (bl s) (k : Int) = some (bi s)[k] := XD (xs := bi s) h
def Qaf (s : ByteArray) : Bool := decide (1 ≤ s.size) && (decide (s.size ≤ 12) && !((bi s).zipIdx.any Qcp))
theorem Qwm (s : ByteArray) : s = ByteArray.mk #[] ↔ s.size = 0 := by
  constructor
  · intro h; subst h; rfl
  · intro h
    cases s with
    | mk d =>
      congr 1
      exact Array.eq_empty_of_size_eq_zero h
theorem Qou (s : ByteArray) : Qcq s = some (Qaf s) := by
  unfold Qcq Qaf
  have hlen : (bi s).zipIdx.length = s.size := by rw [List.length_zipIdx, Qfq]
  by_cases h : 1 ≤ s.size ∧ s.size ≤ 12
  · have : (decide ((s.size : Int) < 1) || decide (12 < (s.size : Int))) = false := by
      rw [decide_eq_false (by omega), decide_eq_false (by omega)]; rfl
    rw [this, cond_false, ZR (bi s).zipIdx Qcp (fun _ _ => false), QB]
    · rcases J0 (p := Qcp) (res := fun _ _ => false) (bi s).zipIdx 0 with ⟨k1, k2⟩ | ⟨j, x, k1, k2, k3⟩
      · rw [k1, k2]; simp [h, jn0]
      · rw [k1, k3]; simp [jn0]
    · intro k hk
      rw [hlen] at hk
      unfold Qjz
      rw [XV hk, cond_true, Qtp (show k < (bi s).length by rw [Qfq]; exact hk), QB, XX k (by omega)]
      simp only [List.getElem_zipIdx, Nat.zero_add]
      rfl
    · rw [hlen]
      unfold Qjz
      rw [XW]; rfl
  · have : (decide ((s.size : Int) < 1) || decide (12 < (s.size : Int))) = true := by
      by_cases h1 : s.size < 1
      · rw [decide_eq_true (by omega)]; rfl
      · rw [decide_eq_true (p := 12 < (s.size : Int)) (by omega)]; simp
    rw [this, cond_true]
    congr 1
    by_cases h1 : 1 ≤ s.size
    · rw [decide_eq_false (p := s.size ≤ 12) (by omega)]; simp
    · rw [decide_eq_false h1]; rfl
theorem QBm (s : ByteArray) (hs : s.size ≤ 1000) : Qdd s = some (Qaf s) := by
  unfold Qdd Qaf
  have hlen : (bi s).zipIdx.length = s.size := by rw [List.length_zipIdx, Qfq]
  have ht : tob s = some (bl s) := by unfold tob; rw [if_pos (by omega)]
  rw [ht, QB, ZR (bi s).zipIdx Qcp (fun _ _ => false), QB]
  · rcases J0 (p := Qcp) (res := fun _ _ => false) (bi s).zipIdx 0 with ⟨k1, k2⟩ | ⟨j, x, k1, k2, k3⟩
    · rw [k1, k2]
      simp only [jn0, Bool.not_false, Bool.and_true, Option.some.injEq]
      by_cases h0 : s.size = 0
      · rw [decide_eq_true ((Qwm s).2 h0), decide_eq_false (show ¬ 1 ≤ s.size by omega)]; rfl
      · rw [decide_eq_false (fun e => h0 ((Qwm s).1 e)), decide_eq_true (show 1 ≤ s.size by omega)]
        simp only [Bool.not_false, Bool.true_and]
        by_cases h1 : s.size ≤ 12
        · rw [decide_eq_true h1, decide_eq_true (by omega)]
        · rw [decide_eq_false h1, decide_eq_false (by omega)]
    · rw [k1, k3]; simp [jn0]
  · intro k hk
    rw [hlen] at hk
    have hk2 : k < (bl s).length := by rw [J8]; exact hk
    unfold Qgm
    rw [XV hk2, cond_true, Qtp (show k < (bi s).length by rw [Qfq]; exact hk), QB, XX k (by omega)]
    simp only [List.getElem_zipIdx, Nat.zero_add]
    rfl
  · rw [hlen, show (s.size : Int) = ((bl s).length : Int) by rw [J8]]
    unfold Qgm
    rw [XW]; rfl
theorem QAn (l : List ByteArray) (v : ByteArray) (hl : l.length < 1000000) : Qes l v = some (l.any fun x => decide (v = x)) := by
  unfold Qes Qis
  rw [ZR l (fun x => decide (v = x)) (fun k _ => (k : Int)), QB, Qit, QB, Qob]
  · intro k hk
    unfold Qir
    rw [XV hk, XD hk, XX k (by omega)]; rfl
  · unfold Qir
    rw [XW]; rfl
def JA (s : ByteArray) (others : List ByteArray) : Int := if Qaf s = false then 4 else if (others.any fun x => decide (s = x)) = true then 5 else 0
theorem Qug (s : ByteArray) (others : List ByteArray) (hs : s.size ≤ 1000) (hl : others.length < 1000000) : Qbl s others = some (JA s others) := by
  unfold Qbl JA
  rw [QBm s hs, QB, Jr, QB, QAn _ _ hl, QB, Jr, QB, JW _ (by simp), QB]
  cases Qaf s <;> cases (others.any fun x => decide (s = x)) <;> simp [Zi]
end Go.Gw

end
section
set_option maxRecDepth 4096
namespace Go.Gw
open Go
theorem Qfr {α : Type} {c : Bool} {a b : α} : (bif c then some a else some b) = some (bif c then a else b) := by cases c <;> rfl
def Qwk (l r il ir eq sh lo s0 s1 : Bool) : Int := bif (!(l || il)) || !(r || ir) then 6 else bif l && r then 23 else bif eq then 26 else bif !(sh && lo) then 2 else bif (l && !s0) || (r && !s1) then 3 else 0
def ZX (s : FeedSection) (n : Nat) : Int := Qwk (decide (s.Left = -1)) (decide (s.Right = -1)) (decide (0 ≤ s.Left) && decide (s.Left ≤ (n : Int) - 1)) (decide (0 ≤ s.Right) && decide (s.Right ≤ (n : Int) - 1)) (decide (s.Left = s.Right))
  (decide (0 ≤ s.Share) && decide (s.Share ≤ 1000)) (decide (0 ≤ s.Loss) && decide (s.Loss ≤ 500)) (decide (s.Share = 0)) (decide (s.Share = 1000))
theorem QBr (s : FeedSection) (n : Nat) (hn : n < 1000) : Qdn s (n : Int) = some (ZX s n) := by
  unfold Qdn Qdm ZX
  rw [XS (by omega)]
  simp only [Jr, Qai, QB, Qfr]
  rw [JW _ (by simp), QB]
  congr 1
  generalize decide (s.Left = -1) = l
  generalize decide (s.Right = -1) = r
  generalize (decide (0 ≤ s.Left) && decide (s.Left ≤ (n : Int) - 1)) = il
  generalize (decide (0 ≤ s.Right) && decide (s.Right ≤ (n : Int) - 1)) = ir
  generalize decide (s.Left = s.Right) = eq
  generalize (decide (0 ≤ s.Share) && decide (s.Share ≤ 1000)) = sh
  generalize (decide (0 ≤ s.Loss) && decide (s.Loss ≤ 500)) = lo
  generalize decide (s.Share = 0) = s0
  generalize decide (s.Share = 1000) = s1
  revert l r il ir eq sh lo s0 s1
  decide +kernel
theorem QKw (m : FeedNet) (s : FeedSection) (hn : m.Stations.length < 1000) : Qid m s = some (ZX s m.Stations.length) := by
  unfold Qid Qcf ZX
  rw [XS (by omega)]
  simp only [J9, QB, Qfr]
  congr 1
  generalize decide (s.Left = -1) = l
  generalize decide (s.Right = -1) = r
  generalize (decide (0 ≤ s.Left) && decide (s.Left ≤ (m.Stations.length : Int) - 1)) = il
  generalize (decide (0 ≤ s.Right) && decide (s.Right ≤ (m.Stations.length : Int) - 1)) = ir
  generalize decide (s.Left = s.Right) = eq
  generalize (decide (0 ≤ s.Share) && decide (s.Share ≤ 1000)) = sh
  generalize (decide (0 ≤ s.Loss) && decide (s.Loss ≤ 500)) = lo
  generalize decide (s.Share = 0) = s0
  generalize decide (s.Share = 1000) = s1
  revert l r il ir eq sh lo s0 s1
  decide +kernel
def ZY (s : FeedStep) (n : Nat) : Int := bif !(decide (0 ≤ s.Section) && decide (s.Section ≤ (n : Int) - 1)) then 6 else bif !(decide (-20000 ≤ s.Power) && decide (s.Power ≤ 20000)) then 2 else 0
def Qiu (l : List FeedStep) (n : Nat) : Int := match XZ (fun i => (l[i]?.map (ZY · n)).getD 0) l.length with | some i => (l[i]?.map (ZY · n)).getD 0 | none => 0
def Qyi (e1 e2 : Bool) (o : Bool) (z : Bool) (m : Bool) (st : Int) : Int := bif !(e1 && e2) then 2 else bif !o then 9 else bif !z then 10 else bif !m then 8 else st
def JM (t : FeedTrain) (n : Nat) : Int := Qyi (decide (0 ≤ t.Earliest) && decide (t.Earliest ≤ 1000)) (decide (0 ≤ t.Latest) && decide (t.Latest ≤ 1000)) (decide (t.Earliest ≤ t.Latest)) (decide (0 < (t.Steps.length : Int))) (decide ((t.Steps.length : Int) ≤ 12)) (Qiu t.Steps n)
theorem Qmh (l : List FeedStep) (n k : Nat) (hk : k < l.length) : (l[k]?.map (ZY · n)).getD 0 = ZY l[k] n := by rw [List.getElem?_eq_getElem hk]; rfl
theorem QBv (t : FeedTrain) (n : Nat) (hn : n < 1000) (ht : t.Steps.length < 1000) : Qdq t (n : Int) = some (JM t n) := by
  have key : loop (Qdp (n : Int) t) 0 = some (match XZ (fun i => (t.Steps[i]?.map (ZY · n)).getD 0) t.Steps.length with | some i => .inl ((t.Steps[i]?.map (ZY · n)).getD 0) | none => .inr ()) :=
    Jz (fun k => (k : Int)) t.Steps.length _ (fun _ e => e) () (fun k hk _ => by
      rw [Qmh _ _ _ hk]
      unfold Qdp ZY
      rw [XV hk, cond_true, XD hk, QB, XX k (by omega), XS (by omega)]
      simp only [Jr, Qai, QB]
      rw [QNv _ _ (by omega) (by omega)]
      simp only [Jr, QB]
      rw [JW _ (by simp), QB]
      generalize (decide (0 ≤ t.Steps[k].Section) && decide (t.Steps[k].Section ≤ (n : Int) - 1)) = a
      generalize (decide (-20000 ≤ t.Steps[k].Power) && decide (t.Steps[k].Power ≤ 20000)) = b
      cases a <;> cases b <;> rfl) (fun _ => by
      unfold Qdp
      rw [XW]; rfl)
  unfold Qdq Qar
  rw [key]
  unfold JM Qiu
  simp only [Jr, Qai, QB, Qfr]
  rw [JW _ (by simp), QB]
  generalize (decide (0 ≤ t.Earliest) && decide (t.Earliest ≤ 1000)) = e1
  generalize (decide (0 ≤ t.Latest) && decide (t.Latest ≤ 1000)) = e2
  generalize decide (t.Earliest ≤ t.Latest) = o
  generalize decide (0 < (t.Steps.length : Int)) = z
  generalize decide ((t.Steps.length : Int) ≤ 12) = m
  cases XZ (fun i => (t.Steps[i]?.map (ZY · n)).getD 0) t.Steps.length with
  | none => cases e1 <;> cases e2 <;> cases o <;> cases z <;> cases m <;> rfl
  | some i => cases e1 <;> cases e2 <;> cases o <;> cases z <;> cases m <;> rfl
theorem QLa (m : FeedNet) (t : FeedTrain) (hn : m.Sections.length < 1000) (ht : t.Steps.length < 1000) : Qih m t = some (JM t m.Sections.length) := by
  have key : loop (Qig m t) 0 = some (match XZ (fun i => (t.Steps[i]?.map (ZY · m.Sections.length)).getD 0) t.Steps.length with | some i => .inl ((t.Steps[i]?.map (ZY · m.Sections.length)).getD 0) | none => .inr ()) :=
    Jz (fun k => (k : Int)) t.Steps.length _ (fun _ e => e) () (fun k hk _ => by
      rw [Qmh _ _ _ hk]
      unfold Qig Qnk ZY
      rw [XV hk, cond_true, XD hk, QB, XX k (by omega), XS (by omega)]
      simp only [J9, QB]
      generalize (decide (0 ≤ t.Steps[k].Section) && decide (t.Steps[k].Section ≤ (m.Sections.length : Int) - 1)) = a
      generalize (decide (-20000 ≤ t.Steps[k].Power) && decide (t.Steps[k].Power ≤ 20000)) = b
      cases a <;> cases b <;> rfl) (fun _ => by
      unfold Qig
      rw [XW]; rfl)
  unfold Qih
  rw [key]
  unfold JM Qiu
  simp only [J9, QB, Qfr]
  rw [show decide (t.Latest < t.Earliest) = !decide (t.Earliest ≤ t.Latest) by rw [← decide_not]; congr 1; exact propext (by omega),
    show decide ((t.Steps.length : Int) = 0) = !decide (0 < (t.Steps.length : Int)) by rw [← decide_not]; congr 1; exact propext (by omega),
    show decide (12 < (t.Steps.length : Int)) = !decide ((t.Steps.length : Int) ≤ 12) by rw [← decide_not]; congr 1; exact propext (by omega)]
  generalize (decide (0 ≤ t.Earliest) && decide (t.Earliest ≤ 1000)) = e1
  generalize (decide (0 ≤ t.Latest) && decide (t.Latest ≤ 1000)) = e2
  generalize decide (t.Earliest ≤ t.Latest) = o
  generalize decide (0 < (t.Steps.length : Int)) = z
  generalize decide ((t.Steps.length : Int) ≤ 12) = q
  cases XZ (fun i => (t.Steps[i]?.map (ZY · m.Sections.length)).getD 0) t.Steps.length with
  | none => cases e1 <;> cases e2 <;> cases o <;> cases z <;> cases q <;> rfl
  | some i => cases e1 <;> cases e2 <;> cases o <;> cases z <;> cases q <;> rfl
end Go.Gw

end
section
set_option maxRecDepth 4096
namespace Go.Gw
open Go
def stE (s : FeedStation) (others : List ByteArray) : Int := if JA s.Name others ≠ 0 then JA s.Name others else bif !(decide (0 ≤ s.Limit) && decide (s.Limit ≤ 100000)) then 2 else 0
def Zx (n : FeedNet) (i : Nat) : Int := (n.Stations[i]?.map fun s => stE s ((n.Stations.take i).map (·.Name))).getD 0
def Zw (n : FeedNet) (i : Nat) : Int := (n.Sections[i]?.map fun s => ZX s n.Stations.length).getD 0
def trE (t : FeedTrain) (others : List ByteArray) (n : Nat) : Int := if JA t.Name others ≠ 0 then JA t.Name others else JM t n
def ZA (n : FeedNet) (i : Nat) : Int := (n.Trains[i]?.map fun t => trE t ((n.Trains.take i).map (·.Name)) n.Sections.length).getD 0
def Jj (n : FeedNet) : FeedMark × Int :=
  if n.Stations.length = 0 ∨ n.Sections.length = 0 then (FeedMark.mk 0 0, 10) else if 6 < n.Stations.length ∨ 10 < n.Sections.length ∨ 6 < n.Trains.length then (FeedMark.mk 0 0, 8) else
  match XZ (Zx n) n.Stations.length with
  | some i => (FeedMark.mk 1 i, Zx n i)
  | none => match XZ (Zw n) n.Sections.length with
    | some i => (FeedMark.mk 2 i, Zw n i)
    | none => match XZ (ZA n) n.Trains.length with
      | some i => (FeedMark.mk 3 i, ZA n i)
      | none => (FeedMark.mk 0 0, 0)
structure NetS (n : FeedNet) : Prop where
  st : n.Stations.length < 1000
  se : n.Sections.length < 1000
  tr : n.Trains.length < 1000
  sn : ∀ s ∈ n.Stations, s.Name.size ≤ 1000
  tn : ∀ t ∈ n.Trains, t.Name.size ≤ 1000 ∧ t.Steps.length < 1000
theorem Z7 {α : Type} (l : List α) (f : α → Int) (k : Nat) (hk : k < l.length) : (l[k]?.map f).getD 0 = f l[k] := by rw [List.getElem?_eq_getElem hk]; rfl
theorem Qiv {α β : Type} (l : List α) (f : α → β) (k : Nat) (hk : k < l.length) : (l.take k).map f ++ [f l[k]] = (l.take (k + 1)).map f := by
  rw [List.take_add_one, List.getElem?_eq_getElem hk, List.map_append]; rfl
theorem Qmf (a b : Int) : Zi [a, b] = if a ≠ 0 then a else b := by
  by_cases h : a = 0
  · by_cases h2 : b = 0 <;> simp [Zi, h, h2]
  · simp [Zi, h]
section
variable {n : FeedNet} (h : NetS n)
include h
theorem QBt : loop (Qcy n) (([] : List ByteArray), 0) = some (match XZ (Zx n) n.Stations.length with | some i => .inl (FeedMark.mk 1 i, Zx n i) | none => .inr ()) :=
  Jz (fun k => ((n.Stations.take k).map (·.Name), (k : Int))) n.Stations.length (Zx n) (fun i e => (FeedMark.mk 1 i, e)) () (fun k hk _ => by
    have hst := h.st
    have hs : Zx n k = stE n.Stations[k] ((n.Stations.take k).map (·.Name)) := Z7 _ _ _ hk
    rw [hs]
    unfold Qcy stE
    simp only [XV hk, cond_true, XD hk, QB]
    rw [Qug _ _ (h.sn _ (List.getElem_mem hk)) (by simp; omega), QB]
    simp only [Qai, Jr, QB]
    rw [JW _ (by simp), QB, Qmf]
    generalize (decide (0 ≤ n.Stations[k].Limit) && decide (n.Stations[k].Limit ≤ 100000)) = b
    by_cases h1 : JA n.Stations[k].Name ((n.Stations.take k).map (·.Name)) = 0
    · simp only [h1, ne_eq, not_true_eq_false, if_false]
      cases b
      · rfl
      · simp only [cond_true, decide_true, Bool.not_true, cond_false, if_true]
        rw [JQ (by simp; omega), QB, Qiv n.Stations (·.Name) k hk, XX k (by omega)]
    · simp only [ne_eq, h1, not_false_eq_true, if_true, decide_false, Bool.not_false, cond_true, if_false]) (fun _ => by
    unfold Qcy
    simp only [XW]; rfl)
theorem QBs : loop (Qcz n) 0 = some (match XZ (Zw n) n.Sections.length with | some i => .inl (FeedMark.mk 2 i, Zw n i) | none => .inr ()) :=
  Jz (fun k => (k : Int)) n.Sections.length (Zw n) (fun i e => (FeedMark.mk 2 i, e)) () (fun k hk _ => by
    have hse := h.se
    have hs : Zw n k = ZX n.Sections[k] n.Stations.length := Z7 _ _ _ hk
    rw [hs]
    unfold Qcz
    rw [XV hk, cond_true, XD hk, QB, QBr _ _ h.st, QB, XX k (by omega)]
    by_cases h1 : ZX n.Sections[k] n.Stations.length = 0
    · simp [h1]
    · simp [h1]) (fun _ => by
    unfold Qcz
    rw [XW]; rfl)
theorem QBx : loop (Qda n) (([] : List ByteArray), 0) = some (match XZ (ZA n) n.Trains.length with | some i => .inl (FeedMark.mk 3 i, ZA n i) | none => .inr ()) :=
  Jz (fun k => ((n.Trains.take k).map (·.Name), (k : Int))) n.Trains.length (ZA n) (fun i e => (FeedMark.mk 3 i, e)) () (fun k hk _ => by
    have hst := h.tr
    have hs : ZA n k = trE n.Trains[k] ((n.Trains.take k).map (·.Name)) n.Sections.length := Z7 _ _ _ hk
    rw [hs]
    unfold Qda trE
    simp only [XV hk, cond_true, XD hk, QB]
    rw [Qug _ _ (h.tn _ (List.getElem_mem hk)).1 (by simp; omega), QB, QBv _ _ h.se (h.tn _ (List.getElem_mem hk)).2, QB]
    rw [JW _ (by simp), QB, Qmf]
    by_cases h1 : JA n.Trains[k].Name ((n.Trains.take k).map (·.Name)) = 0
    · simp only [h1, ne_eq, not_true_eq_false, if_false]
      by_cases h2 : JM n.Trains[k] n.Sections.length = 0
      · simp only [h2, decide_true, Bool.not_true, cond_false, if_true]
        rw [JQ (by simp; omega), QB, Qiv n.Trains (·.Name) k hk, XX k (by omega)]
      · simp [h2]
    · simp only [ne_eq, h1, not_false_eq_true, if_true, decide_false, Bool.not_false, cond_true, if_false]) (fun _ => by
    unfold Qda
    simp only [XW]; rfl)
theorem QBj : Qdb n = some (Jj n) := by
  unfold Qdb Jj
  rw [QBt h, QBs h, QBx h]
  simp only [Jr, QB]
  rw [JW _ (by simp), QB, Qmf]
  by_cases h1 : n.Stations.length = 0 ∨ n.Sections.length = 0
  · rw [if_pos h1]
    have : (decide (0 < (n.Stations.length : Int)) && decide (0 < (n.Sections.length : Int))) = false := by
      rw [Bool.eq_false_iff]; intro e; simp at e; omega
    rw [this]; rfl
  · rw [if_neg h1]
    have : (decide (0 < (n.Stations.length : Int)) && decide (0 < (n.Sections.length : Int))) = true := by
      simp; omega
    rw [this]
    by_cases h2 : 6 < n.Stations.length ∨ 10 < n.Sections.length ∨ 6 < n.Trains.length
    · rw [if_pos h2]
      have : ((decide ((n.Stations.length : Int) ≤ 6) && decide ((n.Sections.length : Int) ≤ 10)) && decide ((n.Trains.length : Int) ≤ 6)) = false := by
        rw [Bool.eq_false_iff]; intro e; simp at e; omega
      rw [this]; rfl
    · rw [if_neg h2]
      have : ((decide ((n.Stations.length : Int) ≤ 6) && decide ((n.Sections.length : Int) ≤ 10)) && decide ((n.Trains.length : Int) ≤ 6)) = true := by
        simp; omega
      rw [this]
      cases XZ (Zx n) n.Stations.length with
      | some i => rfl
      | none =>
        cases XZ (Zw n) n.Sections.length with
        | some i => rfl
        | none =>
          cases XZ (ZA n) n.Trains.length with
          | some i => rfl
          | none => rfl
end
end Go.Gw

end
section
set_option maxRecDepth 4096
namespace Go.Gw
open Go
theorem Qxp {α : Type} {p : α → Bool} : ∀ (l : List α) (k m : Nat) (hk : k < l.length), p l[k] = true → ∃ j : Nat, X1 p (fun k _ => (k : Int)) m l = .inl ((m + j : Nat) : Int) ∧ (j < k ↔ (l.take k).any p = true)
  | x :: xs, 0, m, _, hp => ⟨0, by simp at hp; simp [X1, hp], by simp⟩
  | x :: xs, k + 1, m, hk, hp => by
    by_cases hx : p x = true
    · exact ⟨0, by simp [X1, hx], by simp [hx]⟩
    · obtain ⟨j, h1, h2⟩ := Qxp xs k (m + 1) (by simpa using hk) (by simpa using hp)
      refine ⟨j + 1, by simp only [X1, hx]; rw [← show m + 1 + j = m + (j + 1) by omega]; simpa using h1, ?_⟩
      simp only [List.take_succ_cons, List.any_cons, hx]
      rw [← (show ((l : Bool) → (false || l) = l) from fun l => by cases l <;> rfl) ((xs.take k).any p)] at h2
      constructor
      · intro h; simpa using h2.1 (by omega)
      · intro h; have := h2.2 (by simpa using h); omega
theorem Qot {α : Type} (f : α → ByteArray) (l : List α) (s : ByteArray) : ((l.map f).any fun x => decide (s = x)) = l.any fun y => decide (f y = s) := by
  rw [List.any_map]
  congr 1
  funext y
  exact decide_eq_decide.2 eq_comm
def Yd (n : FeedNet) (s : ByteArray) : Int := match X1 (fun t : FeedTrain => decide (t.Name = s)) (fun k _ => (k : Int)) 0 n.Trains with | .inl i => i | .inr _ => -1
theorem Qhk (n : FeedNet) (s : ByteArray) (h : n.Trains.length < 1000000) : Qax n s = some (Yd n s) := by
  unfold Qax Yd
  rw [ZR n.Trains (fun t => decide (t.Name = s)) (fun k _ => (k : Int)), QB, Qit]
  all_goals first
    | (intro k hk; unfold Qnh; rw [XV hk, cond_true, XD hk, QB, XX k (by omega)])
    | (unfold Qnh; rw [XW]; rfl)
    | rfl
section
variable {n : FeedNet} (h : NetS n)
include h
theorem QKy : loop (Qhq n) 0 = some (match XZ (Zx n) n.Stations.length with | some i => .inl (FeedMark.mk 1 i, Zx n i) | none => .inr ()) :=
  Jz (fun k => (k : Int)) n.Stations.length (Zx n) (fun i e => (FeedMark.mk 1 i, e)) () (fun k hk _ => by
    have hst := h.st
    have hs : Zx n k = stE n.Stations[k] ((n.Stations.take k).map (·.Name)) := Z7 _ _ _ hk
    have hlen : (n.Stations.take k).length = k := by simp; omega
    have inner : loop (Qhp n (k : Int)) 0 = some (X1 (fun y : FeedStation => decide (y.Name = n.Stations[k].Name)) (fun _ _ => Sum.inr (α := Int) (Sum.inl (β := Unit) (FeedMark.mk 1 (k : Int), (5 : Int)))) 0 (n.Stations.take k)) :=
      ZR (n.Stations.take k) _ _ (fun j hj => by
        rw [hlen] at hj
        unfold Qhp
        rw [XV hj, cond_true, XD (show j < n.Stations.length by omega), QB, XD hk, QB, XX j (by omega)]
        simp only [List.getElem_take]) (by
        rw [hlen]
        unfold Qhp
        rw [XW]; rfl)
    rw [hs]
    unfold Qhq stE JA
    rw [XV hk, cond_true, XD hk, QB, Qou, QB, inner, Qot]
    cases hn : Qaf n.Stations[k].Name
    · rfl
    · simp only [Bool.not_true, cond_false, QB]
      rcases J0 (p := fun y : FeedStation => decide (y.Name = n.Stations[k].Name)) (res := fun _ _ => Sum.inr (α := Int) (Sum.inl (β := Unit) (FeedMark.mk 1 (k : Int), (5 : Int)))) (n.Stations.take k) 0 with ⟨k1, k2⟩ | ⟨j, x, k1, k2, k3⟩
      · rw [k1, k2]
        simp only [jn0, QB, J9, XX k (show k < 4611686018427387904 by omega)]
        generalize (decide (0 ≤ n.Stations[k].Limit) && decide (n.Stations[k].Limit ≤ 100000)) = b
        cases b <;> rfl
      · rw [k1, k3]; rfl) (fun _ => by
    unfold Qhq
    rw [XW]; rfl)
theorem QKx : loop (Qhr n) 0 = some (match XZ (Zw n) n.Sections.length with | some i => .inl (FeedMark.mk 2 i, Zw n i) | none => .inr ()) :=
  Jz (fun k => (k : Int)) n.Sections.length (Zw n) (fun i e => (FeedMark.mk 2 i, e)) () (fun k hk _ => by
    have hse := h.se
    have hs : Zw n k = ZX n.Sections[k] n.Stations.length := Z7 _ _ _ hk
    rw [hs]
    unfold Qhr
    rw [XV hk, cond_true, XD hk, QB, QKw _ _ h.st, QB, XX k (by omega)]
    by_cases h1 : ZX n.Sections[k] n.Stations.length = 0
    · simp [h1]
    · simp [h1]) (fun _ => by
    unfold Qhr
    rw [XW]; rfl)
theorem QLb : loop (Qhs n) 0 = some (match XZ (ZA n) n.Trains.length with | some i => .inl (FeedMark.mk 3 i, ZA n i) | none => .inr ()) :=
  Jz (fun k => (k : Int)) n.Trains.length (ZA n) (fun i e => (FeedMark.mk 3 i, e)) () (fun k hk _ => by
    have hst := h.tr
    have hs : ZA n k = trE n.Trains[k] ((n.Trains.take k).map (·.Name)) n.Sections.length := Z7 _ _ _ hk
    obtain ⟨j, hj1, hj2⟩ := Qxp (p := fun t : FeedTrain => decide (t.Name = n.Trains[k].Name)) n.Trains k 0 hk (by simp)
    have ht : Yd n n.Trains[k].Name = (j : Int) := by unfold Yd; rw [hj1]; simp
    rw [hs]
    unfold Qhs trE JA
    rw [XV hk, cond_true, XD hk, QB, Qou, QB, Qot]
    cases hn : Qaf n.Trains[k].Name
    · rfl
    · simp only [Bool.not_true, cond_false, QB]
      rw [Qhk _ _ (by omega), ht, QB, QLa _ _ h.se (h.tn _ (List.getElem_mem hk)).2, QB, XX k (by omega)]
      cases ha : (n.Trains.take k).any (fun t => decide (t.Name = n.Trains[k].Name)) with
      | true =>
        rw [decide_eq_true (show (j : Int) < k by have := hj2.2 ha; omega)]; rfl
      | false =>
        rw [decide_eq_false (show ¬ (j : Int) < k by intro e; have := hj2.1 (by omega); rw [ha] at this; cases this)]
        by_cases h2 : JM n.Trains[k] n.Sections.length = 0
        · simp [h2]
        · simp [h2]) (fun _ => by
    unfold Qhs
    rw [XW]; rfl)
theorem QKo : Qht n = some (Jj n) := by
  unfold Qht Jj
  rw [QKy h, QKx h, QLb h]
  by_cases h1 : n.Stations.length = 0 ∨ n.Sections.length = 0
  · rw [if_pos h1]
    have : (decide ((n.Stations.length : Int) = 0) || decide ((n.Sections.length : Int) = 0)) = true := by
      simp only [Bool.or_eq_true, decide_eq_true_eq]; omega
    rw [this]; rfl
  · rw [if_neg h1]
    have : (decide ((n.Stations.length : Int) = 0) || decide ((n.Sections.length : Int) = 0)) = false := by
      rw [decide_eq_false (by omega), decide_eq_false (by omega)]; rfl
    rw [this, cond_false]
    by_cases h2 : 6 < n.Stations.length ∨ 10 < n.Sections.length ∨ 6 < n.Trains.length
    · rw [if_pos h2]
      have : ((decide (6 < (n.Stations.length : Int)) || decide (10 < (n.Sections.length : Int))) || decide (6 < (n.Trains.length : Int))) = true := by
        simp only [Bool.or_eq_true, decide_eq_true_eq]; omega
      rw [this]; rfl
    · rw [if_neg h2]
      have : ((decide (6 < (n.Stations.length : Int)) || decide (10 < (n.Sections.length : Int))) || decide (6 < (n.Trains.length : Int))) = false := by
        rw [decide_eq_false (by omega), decide_eq_false (by omega), decide_eq_false (by omega)]; rfl
      rw [this, cond_false]
      cases XZ (Zx n) n.Stations.length with
      | some i => rfl
      | none =>
        cases XZ (Zw n) n.Sections.length with
        | some i => rfl
        | none =>
          cases XZ (ZA n) n.Trains.length with
          | some i => rfl
          | none => rfl
end
end Go.Gw

end
section
set_option maxRecDepth 4096
namespace Go.Gw
open Go
theorem QAp (l : List FeedDeparture) (h : l.length < 1000000) : Qee l = some l := by
  unfold Qee; rw [JQ (by simp; omega)]; rfl
theorem QAq {n : FeedNet} (h : NetS n) : Qef n = some n := by
  have key : loop (Qhu n) (0, ([] : List FeedTrain)) = some n.Trains :=
    ZQ (fun k => ((k : Int), n.Trains.take k)) n.Trains.length (fun k hk => by
      have hst := h.tr
      have hsteps := (h.tn _ (List.getElem_mem hk)).2
      unfold Qhu
      simp only [XV hk, cond_true, XD hk, QB]
      rw [JQ (by simp; omega), QB, JQ (by simp; omega), QB, XX k (by omega), List.nil_append]
      congr 3
      rw [List.take_add_one, List.getElem?_eq_getElem hk]; rfl) (by
      unfold Qhu
      simp only [XW, cond_false, List.take_length])
  unfold Qef
  have h1 := h.st
  have h2 := h.se
  rw [JQ (by simp; omega), JQ (by simp; omega), key]
  rfl
def Qdr (n : FeedNet) : Bool := !(decide (8 < n.Stations.length) || decide (12 < n.Sections.length) || decide (8 < n.Trains.length)) && !(n.Stations.any fun s => decide (20 < (s.Name.size : Int))) && !(n.Trains.any fun t => decide (20 < (t.Name.size : Int)) || decide (14 < (t.Steps.length : Int)))
theorem QGd (n : FeedNet) : Qgx n = some (Qdr n) := by
  unfold Qgx Qdr
  by_cases h : 8 < n.Stations.length ∨ 12 < n.Sections.length ∨ 8 < n.Trains.length
  · have e1 : ((decide (8 < (n.Stations.length : Int)) || decide (12 < (n.Sections.length : Int))) || decide (8 < (n.Trains.length : Int))) = true := by
      simp only [Bool.or_eq_true, decide_eq_true_eq]; omega
    have e2 : (decide (8 < n.Stations.length) || decide (12 < n.Sections.length) || decide (8 < n.Trains.length)) = true := by
      simp only [Bool.or_eq_true, decide_eq_true_eq]; omega
    rw [e1, e2]; rfl
  · have e1 : ((decide (8 < (n.Stations.length : Int)) || decide (12 < (n.Sections.length : Int))) || decide (8 < (n.Trains.length : Int))) = false := by
      rw [decide_eq_false (by omega), decide_eq_false (by omega), decide_eq_false (by omega)]; rfl
    have e2 : (decide (8 < n.Stations.length) || decide (12 < n.Sections.length) || decide (8 < n.Trains.length)) = false := by
      rw [decide_eq_false (by omega), decide_eq_false (by omega), decide_eq_false (by omega)]; rfl
    rw [e1, e2, cond_false, ZR n.Stations (fun s => decide (20 < (s.Name.size : Int))) (fun _ _ => false), QB, ZR n.Trains (fun t => decide (20 < (t.Name.size : Int)) || decide (14 < (t.Steps.length : Int))) (fun _ _ => false)]
    · rcases J0 (p := fun s : FeedStation => decide (20 < (s.Name.size : Int))) (res := fun _ _ => false) n.Stations 0 with ⟨k1, k2⟩ | ⟨j, x, k1, k2, k3⟩
      · rw [k1, k2]
        rcases J0 (p := fun t : FeedTrain => decide (20 < (t.Name.size : Int)) || decide (14 < (t.Steps.length : Int))) (res := fun _ _ => false) n.Trains 0 with ⟨k3, k4⟩ | ⟨j, x, k3, k4, k5⟩
        · rw [k3, k4]; rfl
        · rw [k3, k5]; rfl
      · rw [k1, k3]; rfl
    · intro k hk
      unfold Qml
      rw [XV hk, cond_true, XD hk, QB, XX k (by omega)]
      cases h1 : decide (20 < (n.Trains[k].Name.size : Int)) <;> simp
    · unfold Qml
      rw [XW]; rfl
    · intro k hk
      unfold Qmk
      rw [XV hk, cond_true, XD hk, QB, XX k (by omega)]
    · unfold Qmk
      rw [XW]; rfl
theorem QGc {n : FeedNet} (h : Qdr n = true) : NetS n := by
  unfold Qdr at h
  simp only [Bool.and_eq_true, Bool.not_eq_true', Bool.or_eq_false_iff, decide_eq_false_iff_not, List.any_eq_false] at h
  obtain ⟨⟨⟨⟨h1, h2⟩, h3⟩, h4⟩, h5⟩ := h
  refine ⟨by omega, by omega, by omega, fun s hs => ?_, fun t ht => ?_⟩
  · have := h4 s hs; simp at this; omega
  · have := h5 t ht; simp at this; omega
def Qeq (l : List FeedDeparture) : Bool := !(decide (8 < l.length)) && !(l.any fun d => decide (20 < (d.Train.size : Int)))
theorem QMl (l : List FeedDeparture) : Qhb l = some (Qeq l) := by
  unfold Qhb Qeq
  by_cases h : 8 < l.length
  · rw [decide_eq_true (show 8 < (l.length : Int) by omega), decide_eq_true h]; rfl
  · rw [decide_eq_false (show ¬ 8 < (l.length : Int) by omega), decide_eq_false h, cond_false, ZR l (fun d => decide (20 < (d.Train.size : Int))) (fun _ _ => false)]
    · rcases J0 (p := fun d : FeedDeparture => decide (20 < (d.Train.size : Int))) (res := fun _ _ => false) l 0 with ⟨k1, k2⟩ | ⟨j, x, k1, k2, k3⟩
      · rw [k1, k2]; rfl
      · rw [k1, k3]; rfl
    · intro k hk
      unfold Qmm
      rw [XV hk, cond_true, XD hk, QB, XX k (by omega)]
    · unfold Qmm
      rw [XW]; rfl
theorem QMk {l : List FeedDeparture} (h : Qeq l = true) : l.length ≤ 8 := by
  unfold Qeq at h; simp at h; omega
end Go.Gw

end
section
set_option maxRecDepth 4096
namespace Go.Gw
open Go
def Jt (n : FeedNet) (d : FeedDeparture) (others : List FeedDeparture) : Int := if Yd n d.Train < 0 then 6 else if (others.any fun o => decide (o.Train = d.Train)) = true then 26 else bif !(decide (0 ≤ d.At) && decide (d.At ≤ 1000)) then 2 else 0
def YP (n : FeedNet) (l : List FeedDeparture) (i : Nat) : Int := (l[i]?.map fun d => Jt n d (l.take i)).getD 0
def Q7 (n : FeedNet) (d : FeedDeparture) : feed_run := feed_run.mk (n.Trains[(Yd n d.Train).toNat]?.getD default) d.At
theorem Qfa {n : FeedNet} {s : ByteArray} (h : 0 ≤ Yd n s) : ∃ t, n.Trains[(Yd n s).toNat]? = some t ∧ t.Name = s ∧ (Yd n s).toNat < n.Trains.length := by
  have key : ∀ (l : List FeedTrain) (m : Nat), (X1 (fun t : FeedTrain => decide (t.Name = s)) (fun k _ => (k : Int)) m l = .inr ()) ∨ ∃ (j : Nat) (t : FeedTrain), X1 (fun t : FeedTrain => decide (t.Name = s)) (fun k _ => (k : Int)) m l = .inl ((m + j : Nat) : Int) ∧ l[j]? = some t ∧ t.Name = s := by
    intro l
    induction l with
    | nil => intro m; exact .inl rfl
    | cons x xs ih =>
      intro m
      by_cases hx : x.Name = s
      · exact .inr ⟨0, x, by simp [X1, hx], rfl, hx⟩
      · rcases ih (m + 1) with h1 | ⟨j, t, h1, h2, h3⟩
        · exact .inl (by simp [X1, hx, h1])
        · exact .inr ⟨j + 1, t, by simp only [X1, hx, decide_false]; rw [← show m + 1 + j = m + (j + 1) by omega]; simpa using h1, h2, h3⟩
  rcases key n.Trains 0 with h1 | ⟨j, t, h1, h2, h3⟩
  · unfold Yd at h; rw [h1] at h; simp at h
  · have e : Yd n s = (j : Int) := by unfold Yd; rw [h1]; simp
    rw [e]
    exact ⟨t, by simpa using h2, h3, by simpa using (List.getElem?_eq_some_iff.1 h2).1⟩
theorem QBw (n : FeedNet) (s : ByteArray) (h : n.Trains.length < 1000000) : Qdi ⟨n⟩ s = some (Yd n s) := by
  unfold Qdi Qio Yd
  rw [ZR n.Trains (fun t => decide (t.Name = s)) (fun k _ => (k : Int)), QB, Qit]
  · rfl
  · intro k hk
    unfold Qin
    rw [XV hk, cond_true, XD hk, QB, XX k (by omega)]; rfl
  · unfold Qin
    rw [XW]; rfl
theorem QAe (l : List feed_run) (d : FeedDeparture) (hl : l.length < 1000000) : Qer l d = some (l.any fun r => decide (r.FeedTrain.Name = d.Train)) := by
  unfold Qer Qiq
  rw [ZR l (fun r => decide (r.FeedTrain.Name = d.Train)) (fun k _ => (k : Int)), QB, Qit, QB, Qob]
  · intro k hk
    unfold Qip
    rw [XV hk, cond_true, XD hk, QB, XX k (by omega)]; rfl
  · unfold Qip
    rw [XW]; rfl
theorem Qkj {n : FeedNet} {d : FeedDeparture} {o : List FeedDeparture} (h : Jt n d o = 0) : 0 ≤ Yd n d.Train := by
  unfold Jt at h
  split at h
  · cases h
  · omega
theorem QMc {n : FeedNet} (s : ByteArray) (l : List FeedDeparture) (h : ∀ d ∈ l, 0 ≤ Yd n d.Train) : ((l.map (Q7 n)).any fun r => decide (r.FeedTrain.Name = s)) = l.any fun d => decide (d.Train = s) := by
  rw [List.any_map]
  induction l with
  | nil => rfl
  | cons d l ih =>
    simp only [List.any_cons]
    rw [ih fun x hx => h x (List.mem_cons_of_mem _ hx)]
    congr 1
    obtain ⟨t, h1, h2, _⟩ := Qfa (h d (List.mem_cons_self ..))
    simp [Q7, h1, h2]
theorem QGg (a b c : Int) : Zi [a, b, c] = if a ≠ 0 then a else if b ≠ 0 then b else c := by
  by_cases h : a = 0 <;> by_cases h2 : b = 0 <;> by_cases h3 : c = 0 <;> simp [Zi, h, h2, h3]
theorem QBq (n : FeedNet) (l : List FeedDeparture) (hn : n.Trains.length < 1000) : Qdh ⟨n⟩ l = some (if 6 < l.length then ([], 0, 8) else match XZ (YP n l) l.length with | some i => ([], (i : Int), YP n l i) | none => (l.map (Q7 n), 0, 0)) := by
  unfold Qdh
  by_cases h6 : 6 < l.length
  · rw [decide_eq_true (show 6 < (l.length : Int) by omega), if_pos h6]; rfl
  · rw [decide_eq_false (show ¬ 6 < (l.length : Int) by omega), if_neg h6, cond_false]
    have key : loop (Qdg l ⟨n⟩) (([] : List feed_run), 0) = some (match XZ (YP n l) l.length with | some i => .inl ([], (i : Int), YP n l i) | none => .inr (l.map (Q7 n))) :=
      Jz (fun k => ((l.take k).map (Q7 n), (k : Int))) l.length (YP n l) (fun i e => (([] : List feed_run), (i : Int), e)) (l.map (Q7 n)) (fun k hk hpre => by
        have hs : YP n l k = Jt n l[k] (l.take k) := Z7 _ _ _ hk
        have hall : ∀ d ∈ l.take k, 0 ≤ Yd n d.Train := fun d hd => by
          obtain ⟨j, hj, rfl⟩ := List.mem_iff_getElem.1 hd
          have hjk : j < k := by rw [List.length_take] at hj; omega
          have := hpre j hjk
          rw [show YP n l j = Jt n l[j] (l.take j) from Z7 _ _ _ (by omega)] at this
          rw [List.getElem_take]
          exact Qkj this
        rw [hs]
        unfold Qdg
        simp only [XV hk, cond_true, XD hk, QB]
        rw [QBw n _ (by omega), QB, QAe _ _ (by simp; omega), QB, QMc _ _ hall]
        unfold Qar
        simp only [Jr, Qai, QB]
        rw [JW _ (by simp), QB, QGg]
        unfold Jt
        generalize (decide (0 ≤ l[k].At) && decide (l[k].At ≤ 1000)) = b
        generalize ((l.take k).any fun d => decide (d.Train = l[k].Train)) = tw
        by_cases ht : Yd n l[k].Train < 0
        · rw [decide_eq_false (show ¬ 0 ≤ Yd n l[k].Train by omega)]
          simp [ht]
        · rw [decide_eq_true (show 0 ≤ Yd n l[k].Train by omega), if_neg ht]
          cases tw
          · cases b
            · rfl
            · simp only [cond_true, Bool.not_false, Bool.not_true, cond_false, ne_eq, not_true_eq_false, if_false, decide_true]
              obtain ⟨t, h1, h2, h3⟩ := Qfa (show 0 ≤ Yd n l[k].Train by omega)
              have hidx : idx n.Trains (Yd n l[k].Train) = some t := by unfold idx; rw [if_pos (by omega)]; exact h1
              rw [hidx, QB, JQ (by simp; omega), QB, XX k (by omega)]
              have : feed_run.mk t l[k].At = Q7 n l[k] := by unfold Q7; rw [h1]; rfl
              rw [this, Qiv l (Q7 n) k hk]
              rfl
          · rfl) (fun _ => by
        unfold Qdg
        simp only [XW, cond_false, List.take_length])
    rw [key, QB]
    cases XZ (YP n l) l.length <;> rfl
theorem QKn (n : FeedNet) (l : List FeedDeparture) (hn : n.Trains.length < 1000) : Qho n l = some (if 6 < l.length then (0, 8) else match XZ (YP n l) l.length with | some i => ((i : Int), YP n l i) | none => (0, 0)) := by
  unfold Qho
  by_cases h6 : 6 < l.length
  · rw [decide_eq_true (show 6 < (l.length : Int) by omega), if_pos h6]; rfl
  · rw [decide_eq_false (show ¬ 6 < (l.length : Int) by omega), if_neg h6, cond_false]
    have key : loop (Qhn l n) 0 = some (match XZ (YP n l) l.length with | some i => .inl ((i : Int), YP n l i) | none => .inr ()) :=
      Jz (fun k => (k : Int)) l.length (YP n l) (fun i e => ((i : Int), e)) () (fun k hk _ => by
        have hs : YP n l k = Jt n l[k] (l.take k) := Z7 _ _ _ hk
        have hlen : (l.take k).length = k := by simp; omega
        have inner : loop (Qhm l (k : Int)) 0 = some (X1 (fun y : FeedDeparture => decide (y.Train = l[k].Train)) (fun _ _ => Sum.inr (α := Int) (Sum.inl (β := Unit) ((k : Int), (26 : Int)))) 0 (l.take k)) :=
          ZR (l.take k) _ _ (fun j hj => by
            rw [hlen] at hj
            unfold Qhm
            rw [XV hj, cond_true, XD (show j < l.length by omega), QB, XD hk, QB, XX j (by omega)]
            simp only [List.getElem_take]) (by
            rw [hlen]
            unfold Qhm
            rw [XW]; rfl)
        rw [hs]
        unfold Qhn Jt
        rw [XV hk, cond_true, XD hk, QB, Qhk _ _ (by omega), QB, inner]
        by_cases ht : Yd n l[k].Train < 0
        · rw [decide_eq_true ht, if_pos ht]; rfl
        · rw [decide_eq_false ht, if_neg ht, cond_false, QB]
          rcases J0 (p := fun y : FeedDeparture => decide (y.Train = l[k].Train)) (res := fun _ _ => Sum.inr (α := Int) (Sum.inl (β := Unit) ((k : Int), (26 : Int)))) (l.take k) 0 with ⟨k1, k2⟩ | ⟨j, x, k1, k2, k3⟩
          · rw [k1, k2]
            simp only [jn0, QB, J9, XX k (show k < 4611686018427387904 by omega)]
            generalize (decide (0 ≤ l[k].At) && decide (l[k].At ≤ 1000)) = b
            cases b <;> rfl
          · rw [k1, k3]; rfl) (fun _ => by
        unfold Qhn
        rw [XW]; rfl)
    rw [key, QB]
    cases XZ (YP n l) l.length <;> rfl
end Go.Gw

end
section
set_option maxRecDepth 4096
namespace Go.Gw
open Go
/-! ### The greatest common divisor -/
noncomputable def QGx (n A : Int) : Frac := (Qzv n A).getD default
/-! ### Sums -/
theorem Qoc {c : Int} (hc : 0 ≤ c) : ∀ {l : List Int}, (∀ x ∈ l, -c ≤ x ∧ x ≤ c) → -(c * l.length) ≤ l.sum ∧ l.sum ≤ c * l.length
  | [], _ => by simp
  | x :: l, h => by
    have h1 := h x (List.mem_cons_self ..)
    have h2 := Qoc hc (l := l) fun y hy => h y (List.mem_cons_of_mem _ hy)
    simp only [List.sum_cons, List.length_cons]
    have : c * ((l.length + 1 : Nat) : Int) = c * l.length + c := by rw [Int.natCast_add, Int.mul_add]; simp
    rw [this]
    omega
theorem Qxs {l : List Int} {k : Nat} (hk : k < l.length) : (l.take (k + 1)).sum = (l.take k).sum + l[k] := by
  rw [List.take_add_one, List.getElem?_eq_getElem hk, List.sum_append]
  simp
theorem QNz {l : List Int} {c : Int} (hc : 0 ≤ c) (hc2 : c ≤ 1000000000) (h : ∀ x ∈ l, -c ≤ x ∧ x ≤ c) (hl : l.length ≤ 1000) : Qif l = some l.sum := by
  have key : loop (Qie l) (0, 0) = some l.sum := ZQ (o := l.sum) (fun k => ((l.take k).sum, (k : Int))) l.length ?_ ?_
  · unfold Qif
    rw [key]; rfl
  · intro k hk
    unfold Qie
    have hb := Qoc hc (l := l.take (k + 1)) fun x hx => h x (List.mem_of_mem_take hx)
    have hlen : (l.take (k + 1)).length = k + 1 := by simp; omega
    rw [hlen, Qxs hk] at hb
    have hm : c * ((k + 1 : Nat) : Int) ≤ 1000000000 * 1000 := Int.mul_le_mul hc2 (by omega) (by omega) (by omega)
    simp only [XV hk, cond_true, XD hk, QB]
    rw [XS (by omega), XX k (by omega), Qxs hk]
  · unfold Qie
    simp only [XW, cond_false, List.take_length]
end Go.Gw

end
section
set_option maxRecDepth 4096
namespace Go.Gw
open Go
def ZM (st : List FeedStep) (k : Int) (s : Nat) : Int := if 0 ≤ k ∧ k ≤ (st.length : Int) - 1 then (match st[k.toNat]? with | some x => if x.Section = (s : Int) then x.Power else 0 | none => 0) else 0
def Xu (l : List feed_run) (t : Int) (s : Nat) : Int := (l.map fun r => ZM r.FeedTrain.Steps (t - r.at_) s).sum
def ZG (m : Nat) (r : feed_run) : Prop := (∀ x ∈ r.FeedTrain.Steps, 0 ≤ x.Section ∧ x.Section ≤ (m : Int) - 1 ∧ -20000 ≤ x.Power ∧ x.Power ≤ 20000) ∧ r.FeedTrain.Steps.length ≤ 12 ∧ 0 ≤ r.at_ ∧ r.at_ ≤ 1000
theorem QAs {m : Nat} {r : feed_run} (h : ZG m r) (k : Int) (s : Nat) : -20000 ≤ ZM r.FeedTrain.Steps k s ∧ ZM r.FeedTrain.Steps k s ≤ 20000 := by
  unfold ZM
  split
  · split
    · rename_i x hx
      have := h.1 x (List.mem_of_getElem? hx)
      split <;> omega
    · omega
  · omega
theorem Qnc {m : Nat} {l : List feed_run} (h : ∀ r ∈ l, ZG m r) (t : Int) (s : Nat) : -(20000 * (l.length : Int)) ≤ Xu l t s ∧ Xu l t s ≤ 20000 * (l.length : Int) := by
  have := Qoc (c := 20000) (by omega) (l := l.map fun r => ZM r.FeedTrain.Steps (t - r.at_) s) fun x hx => by
    obtain ⟨r, hr, rfl⟩ := List.mem_map.1 hx
    exact QAs (h r hr) _ _
  simpa [Xu] using this
theorem Qnd {l : List feed_run} {t : Int} {s k : Nat} (hk : k < l.length) : Xu (l.take (k + 1)) t s = Xu (l.take k) t s + ZM l[k].FeedTrain.Steps (t - l[k].at_) s := by
  unfold Xu
  rw [List.take_add_one, List.getElem?_eq_getElem hk, List.map_append, List.sum_append]
  simp
theorem QMj {m : Nat} {f g : Nat → Int} {s : Nat} (hs : s < m) (hv : ∀ i, i ≠ s → g i = f i) : ((List.range m).map f).set s (g s) = (List.range m).map g := by
  apply List.ext_getElem?
  intro i
  by_cases hi : i = s
  · subst hi
    rw [List.getElem?_set_self (by simpa using hs)]
    simp [hs]
  · rw [List.getElem?_set_ne (Ne.symm hi)]
    by_cases him : i < m
    · simp [him, hv i hi]
    · simp [him]
theorem Qmp (m : Nat) (h : m < 1000) : mk (m : Int) (0 : Int) = some ((List.range m).map fun _ => (0 : Int)) := by
  unfold mk
  rw [if_pos (by omega)]
  congr 1
  apply List.ext_getElem?
  intro i
  by_cases hi : i < m <;> simp [hi]
theorem QNy {m : Nat} {r : feed_run} (h : ZG m r) {t : Int} (ht : 0 ≤ t) (ht2 : t ≤ 100000) :
    ∃ o, Qbs r t = some o ∧ ((o.2 = false ∧ ∀ s, ZM r.FeedTrain.Steps (t - r.at_) s = 0) ∨ (o.2 = true ∧ 0 ≤ o.1.Section ∧ o.1.Section ≤ (m : Int) - 1 ∧ -20000 ≤ o.1.Power ∧ o.1.Power ≤ 20000 ∧ ∀ s : Nat, ZM r.FeedTrain.Steps (t - r.at_) s = if o.1.Section = (s : Int) then o.1.Power else 0)) := by
  obtain ⟨h1, h2, h3, h4⟩ := h
  unfold Qbs
  rw [XS (by omega), XS (by omega), Qai, QB]
  by_cases hin : 0 ≤ t - r.at_ ∧ t - r.at_ ≤ (r.FeedTrain.Steps.length : Int) - 1
  · have e : (decide (0 ≤ t - r.at_) && decide (t - r.at_ ≤ (r.FeedTrain.Steps.length : Int) - 1)) = true := by
      rw [decide_eq_true hin.1, decide_eq_true hin.2]; rfl
    have hk : (t - r.at_).toNat < r.FeedTrain.Steps.length := by omega
    have hidx : idx r.FeedTrain.Steps (t - r.at_) = some r.FeedTrain.Steps[(t - r.at_).toNat] := by
      unfold idx; rw [if_pos hin.1, List.getElem?_eq_getElem hk]
    rw [e]
    simp only [Bool.not_true, cond_false]
    rw [hidx, QB]
    have hb := h1 _ (List.getElem_mem hk)
    refine ⟨_, rfl, .inr ⟨rfl, hb.1, hb.2.1, hb.2.2.1, hb.2.2.2, fun s => ?_⟩⟩
    unfold ZM
    rw [if_pos hin, List.getElem?_eq_getElem hk]
  · have e : (decide (0 ≤ t - r.at_) && decide (t - r.at_ ≤ (r.FeedTrain.Steps.length : Int) - 1)) = false := by
      rw [Bool.eq_false_iff]; intro e; simp at e; exact hin (by omega)
    rw [e]
    exact ⟨_, rfl, .inl ⟨rfl, fun s => by unfold ZM; rw [if_neg hin]⟩⟩
theorem QKi {n : FeedNet} {l : List feed_run} (hn : n.Sections.length < 1000) (hl : l.length ≤ 8) (h : ∀ r ∈ l, ZG n.Sections.length r) {t : Int} (ht : 0 ≤ t) (ht2 : t ≤ 100000) :
    Qbq ⟨n⟩ l t = some ((List.range n.Sections.length).map (Xu l t)) := by
  have key : loop (Qdf l t) ((List.range n.Sections.length).map (fun _ => (0 : Int)), 0) = some ((List.range n.Sections.length).map (Xu l t)) :=
    ZQ (fun k => ((List.range n.Sections.length).map (Xu (l.take k) t), (k : Int))) l.length (fun k hk => by
      obtain ⟨o, ho, hc⟩ := QNy (h _ (List.getElem_mem hk)) ht ht2
      unfold Qdf
      simp only [XV hk, cond_true, XD hk, QB, ho]
      rw [XX k (by omega)]
      rcases hc with ⟨h1, h2⟩ | ⟨h1, h2, h3, h4, h5, h6⟩
      · rw [h1, cond_false]
        congr 3
        apply List.map_congr_left
        intro s _
        rw [Qnd hk, h2 s]; simp
      · rw [h1, cond_true]
        have hs : o.1.Section.toNat < n.Sections.length := by omega
        have hsi : ((o.1.Section.toNat : Nat) : Int) = o.1.Section := by omega
        have hidx : idx ((List.range n.Sections.length).map (Xu (l.take k) t)) o.1.Section = some (Xu (l.take k) t o.1.Section.toNat) := by
          unfold idx; rw [if_pos h2]; simp [hs]
        have hb := Qnc (l := l.take k) (fun r hr => h r (List.mem_of_mem_take hr)) t o.1.Section.toNat
        have hlen : (l.take k).length ≤ 8 := by rw [List.length_take]; omega
        have hnew : w64 (Xu (l.take k) t o.1.Section.toNat + o.1.Power) = Xu (l.take (k + 1)) t o.1.Section.toNat := by
          rw [Qnd hk, h6, if_pos (by omega)]; exact XS (by omega)
        rw [hidx, QB, QB, hnew, QMj (f := Xu (l.take k) t) (g := Xu (l.take (k + 1)) t) hs (fun i hi => by rw [Qnd hk, h6, if_neg (by omega)]; simp)]) (by
      unfold Qdf
      simp only [XW, cond_false, List.take_length])
  unfold Qbq
  rw [Qmp _ hn, QB, key]; rfl
end Go.Gw

end
section
set_option maxRecDepth 4096
namespace Go.Gw
open Go
structure NetOk (n : FeedNet) : Prop where
  st0 : 0 < n.Stations.length
  st6 : n.Stations.length ≤ 6
  se0 : 0 < n.Sections.length
  se10 : n.Sections.length ≤ 10
  tr6 : n.Trains.length ≤ 6
  lim : ∀ s ∈ n.Stations, 0 ≤ s.Limit ∧ s.Limit ≤ 100000
  sec : ∀ s ∈ n.Sections, ZX s n.Stations.length = 0
  tr : ∀ t ∈ n.Trains, JM t n.Sections.length = 0
theorem Qti {f : Nat → Int} {n : Nat} (h : (match XZ f n with | some i => f i | none => 0) = 0) : ∀ j, j < n → f j = 0 := by
  rcases Qbu f n with ⟨h1, h2⟩ | ⟨i, h1, h2, h3, h4⟩
  · exact h2
  · rw [h1] at h; exact absurd h h3
theorem QHn {n : FeedNet} (h : (Jj n).2 = 0) : NetOk n := by
  unfold Jj at h
  split at h
  · cases h
  · rename_i h1
    split at h
    · cases h
    · rename_i h2
      rcases Qbu (Zx n) n.Stations.length with ⟨a1, a2⟩ | ⟨i, a1, a2, a3, _⟩
      · rw [a1] at h
        rcases Qbu (Zw n) n.Sections.length with ⟨b1, b2⟩ | ⟨i, b1, b2, b3, _⟩
        · rw [b1] at h
          rcases Qbu (ZA n) n.Trains.length with ⟨c1, c2⟩ | ⟨i, c1, c2, c3, _⟩
          · refine ⟨by omega, by omega, by omega, by omega, by omega, fun s hs => ?_, fun s hs => ?_, fun t ht => ?_⟩
            · obtain ⟨k, hk, rfl⟩ := List.mem_iff_getElem.1 hs
              have := a2 k hk
              rw [show Zx n k = stE n.Stations[k] ((n.Stations.take k).map (·.Name)) from Z7 _ _ _ hk] at this
              unfold stE at this
              split at this
              · rename_i hc; exact absurd this hc
              · cases hb : (decide (0 ≤ n.Stations[k].Limit) && decide (n.Stations[k].Limit ≤ 100000)) with
                | true => simpa using hb
                | false => rw [hb] at this; cases this
            · obtain ⟨k, hk, rfl⟩ := List.mem_iff_getElem.1 hs
              have := b2 k hk
              rwa [show Zw n k = ZX n.Sections[k] n.Stations.length from Z7 _ _ _ hk] at this
            · obtain ⟨k, hk, rfl⟩ := List.mem_iff_getElem.1 ht
              have := c2 k hk
              rw [show ZA n k = trE n.Trains[k] ((n.Trains.take k).map (·.Name)) n.Sections.length from Z7 _ _ _ hk] at this
              unfold trE at this
              split at this
              · rename_i hc; exact absurd this hc
              · exact this
          · rw [c1] at h; exact absurd h c3
        · rw [b1] at h; exact absurd h b3
      · rw [a1] at h; exact absurd h a3
theorem QOy {t : FeedTrain} {m : Nat} (h : JM t m = 0) : (0 ≤ t.Earliest ∧ t.Earliest ≤ 1000) ∧ (0 ≤ t.Latest ∧ t.Latest ≤ 1000) ∧ t.Earliest ≤ t.Latest ∧ 0 < t.Steps.length ∧ t.Steps.length ≤ 12 ∧ ∀ x ∈ t.Steps, 0 ≤ x.Section ∧ x.Section ≤ (m : Int) - 1 ∧ -20000 ≤ x.Power ∧ x.Power ≤ 20000 := by
  unfold JM Qyi at h
  cases h1 : (decide (0 ≤ t.Earliest) && decide (t.Earliest ≤ 1000)) with
  | false => rw [h1] at h; cases h
  | true =>
    cases h2 : (decide (0 ≤ t.Latest) && decide (t.Latest ≤ 1000)) with
    | false => rw [h1, h2] at h; cases h
    | true =>
      cases h3 : decide (t.Earliest ≤ t.Latest) with
      | false => rw [h1, h2, h3] at h; cases h
      | true =>
        cases h4 : decide (0 < (t.Steps.length : Int)) with
        | false => rw [h1, h2, h3, h4] at h; cases h
        | true =>
          cases h5 : decide ((t.Steps.length : Int) ≤ 12) with
          | false => rw [h1, h2, h3, h4, h5] at h; cases h
          | true =>
            rw [h1, h2, h3, h4, h5] at h
            simp only [Bool.and_self, Bool.not_true, cond_false] at h
            unfold Qiu at h
            have hz := Qti h
            simp only [Bool.and_eq_true, decide_eq_true_eq] at h1 h2 h3 h4 h5
            refine ⟨h1, h2, h3, by omega, by omega, fun x hx => ?_⟩
            obtain ⟨k, hk, rfl⟩ := List.mem_iff_getElem.1 hx
            have := hz k hk
            rw [Qmh _ _ _ hk] at this
            unfold ZY at this
            cases a : (decide (0 ≤ t.Steps[k].Section) && decide (t.Steps[k].Section ≤ (m : Int) - 1)) with
            | false => rw [a] at this; cases this
            | true =>
              cases b : (decide (-20000 ≤ t.Steps[k].Power) && decide (t.Steps[k].Power ≤ 20000)) with
              | false => rw [a, b] at this; cases this
              | true =>
                simp only [Bool.and_eq_true, decide_eq_true_eq] at a b
                exact ⟨a.1, a.2, b.1, b.2⟩
theorem QLy {n : FeedNet} (hn : NetOk n) {d : FeedDeparture} {o : List FeedDeparture} (h : Jt n d o = 0) : ZG n.Sections.length (Q7 n d) := by
  have h0 := Qkj h
  obtain ⟨t, h1, h2, h3⟩ := Qfa h0
  have ht := QOy (hn.tr t (List.mem_of_getElem? h1))
  unfold Jt at h
  rw [if_neg (by omega)] at h
  split at h
  · cases h
  · cases b : (decide (0 ≤ d.At) && decide (d.At ≤ 1000)) with
    | false => rw [b] at h; cases h
    | true =>
      simp only [Bool.and_eq_true, decide_eq_true_eq] at b
      unfold ZG Q7
      rw [h1]
      exact ⟨ht.2.2.2.2.2, ht.2.2.2.2.1, b.1, b.2⟩
end Go.Gw

end
section
set_option maxRecDepth 4096
namespace Go.Gw
open Go
structure LadOk (l : FeedLadder) : Prop where
  pos : 0 < l.Loads.length
  most : l.Loads.length ≤ 8
  len : l.Ohms.length = l.Loads.length + 1
  ohm : ∀ x ∈ l.Ohms, 1 ≤ x ∧ x ≤ 500
  load : ∀ x ∈ l.Loads, -20000 ≤ x ∧ x ≤ 20000
theorem Qdw {a b m n : Int} (ha : -m ≤ a ∧ a ≤ m) (hb : -n ≤ b ∧ b ≤ n) : -(m * n) ≤ a * b ∧ a * b ≤ m * n := by
  have h1 : a.natAbs ≤ m.natAbs := by omega
  have h2 : b.natAbs ≤ n.natAbs := by omega
  have h3 := Nat.mul_le_mul h1 h2
  rw [← Int.natAbs_mul, ← Int.natAbs_mul] at h3
  have h4 : 0 ≤ m * n := Int.mul_nonneg (by omega) (by omega)
  omega
def pk (l : FeedLadder) (k : Nat) : Int := (l.Loads.take k).sum
def lf (l : FeedLadder) : Nat → Int
  | 0 => 0
  | k + 1 => lf l k + l.Ohms.getD k 0 * pk l k
def rk (l : FeedLadder) : Nat → Int
  | 0 => 0
  | k + 1 => rk l k + l.Loads.getD k 0 * (l.Ohms.drop (k + 1)).sum
section
variable {l : FeedLadder} (h : LadOk l)
include h
end
noncomputable def QQl (l : FeedLadder) (A L : Int) (n : Nat) : List Frac := (List.range n).map fun i => QGx (L - pk l i * A) A
section
variable {l : FeedLadder} (h : LadOk l)
include h
end
end Go.Gw

end
section
set_option maxRecDepth 4096
namespace Go.Gw
open Go
def XT (s : FeedSection) (p : Int) : Int := if p < 0 then p * (1000 - s.Loss) else p * (1000 + s.Loss)
def X0 (s : FeedSection) (k : Int) : Int := if s.Left = k then s.Share else if s.Right = k then 1000 - s.Share else 0
def Z0 (s : FeedSection) : Prop := (0 ≤ s.Share ∧ s.Share ≤ 1000) ∧ 0 ≤ s.Loss ∧ s.Loss ≤ 500
theorem Qwj {s : FeedSection} {n : Nat} (h : ZX s n = 0) : Z0 s := by
  unfold ZX Qwk at h
  have key : ((decide (0 ≤ s.Share) && decide (s.Share ≤ 1000)) && (decide (0 ≤ s.Loss) && decide (s.Loss ≤ 500))) = true := by
    cases hb : ((decide (0 ≤ s.Share) && decide (s.Share ≤ 1000)) && (decide (0 ≤ s.Loss) && decide (s.Loss ≤ 500))) with
    | true => rfl
    | false =>
      rw [hb] at h
      revert h
      generalize ((!(decide (s.Left = -1) || (decide (0 ≤ s.Left) && decide (s.Left ≤ (n : Int) - 1)))) || !(decide (s.Right = -1) || (decide (0 ≤ s.Right) && decide (s.Right ≤ (n : Int) - 1)))) = a
      generalize (decide (s.Left = -1) && decide (s.Right = -1)) = b
      generalize decide (s.Left = s.Right) = c
      cases a <;> cases b <;> cases c <;> intro h <;> cases h
  simp only [Bool.and_eq_true, decide_eq_true_eq] at key
  exact ⟨key.1, key.2⟩
theorem Qgd {s : FeedSection} (hs : Z0 s) {p : Int} (hp : -160000 ≤ p ∧ p ≤ 160000) : -240000000 ≤ XT s p ∧ XT s p ≤ 240000000 := by
  obtain ⟨_, h1, h2⟩ := hs
  unfold XT
  split
  · have := Qdw (a := p) (b := 1000 - s.Loss) (m := 160000) (n := 1500) hp (by omega); omega
  · have := Qdw (a := p) (b := 1000 + s.Loss) (m := 160000) (n := 1500) hp (by omega); omega
theorem Qns {s : FeedSection} (hs : Z0 s) (k : Int) : -1000 ≤ X0 s k ∧ X0 s k ≤ 1000 := by
  obtain ⟨h0, _⟩ := hs
  unfold X0
  split
  · omega
  · split <;> omega
theorem Qqc {s : FeedSection} (hs : Z0 s) {p : Int} (hp : -160000 ≤ p ∧ p ≤ 160000) : Qbj s p = some (XT s p) := by
  have hb := Qgd hs hp
  obtain ⟨_, h1, h2⟩ := hs
  unfold Qbj XT at *
  by_cases h : p < 0
  · rw [if_pos h] at hb ⊢
    rw [decide_eq_true h, cond_true, XS (x := 1000 - s.Loss) (by omega), XS (by omega)]
  · rw [if_neg h] at hb ⊢
    rw [decide_eq_false h, cond_false, XS (x := 1000 + s.Loss) (by omega), XS (by omega)]
theorem QKp {s : FeedSection} (hs : Z0 s) {p : Int} (hp : -160000 ≤ p ∧ p ≤ 160000) : Qnj s p = some (XT s p) := Qqc hs hp
theorem Qvn {s : FeedSection} (hs : Z0 s) (k : Int) : Qem s k = some (X0 s k) := by
  obtain ⟨h0, _⟩ := hs
  unfold Qem X0
  by_cases h1 : s.Left = k
  · rw [decide_eq_true h1, if_pos h1]; rfl
  · rw [decide_eq_false h1, if_neg h1]
    by_cases h2 : s.Right = k
    · rw [decide_eq_true h2, if_pos h2]
      simp only [cond_false, cond_true]
      rw [XS (by omega)]
    · rw [decide_eq_false h2, if_neg h2]; rfl
theorem QBk {s : FeedSection} (hs : Z0 s) (k : Int) : Qbk s k = some (X0 s k) := by
  rw [← Qvn hs k]
  unfold Qbk Qem
  rw [show decide (k = s.Left) = decide (s.Left = k) from decide_eq_decide.2 eq_comm, show decide (k = s.Right) = decide (s.Right = k) from decide_eq_decide.2 eq_comm]
end Go.Gw

end
section
set_option maxRecDepth 4096
namespace Go.Gw
open Go
def Y5 (secs : List FeedSection) (f : Nat → Int) (k : Nat) : Nat → Int
  | 0 => 0
  | j + 1 => Y5 secs f k j + (secs[j]?.map fun s => XT s (f j) * X0 s (k : Int)).getD 0
section
variable {secs : List FeedSection} {f : Nat → Int} (hs : ∀ s ∈ secs, Z0 s) (hf : ∀ j, -160000 ≤ f j ∧ f j ≤ 160000)
include hs hf
theorem QOv (k j : Nat) : -240000000000 ≤ (secs[j]?.map fun s => XT s (f j) * X0 s (k : Int)).getD 0 ∧ (secs[j]?.map fun s => XT s (f j) * X0 s (k : Int)).getD 0 ≤ 240000000000 := by
  by_cases hj : j < secs.length
  · rw [List.getElem?_eq_getElem hj]
    have h1 := hs _ (List.getElem_mem hj)
    have := Qdw (Qgd h1 (hf j)) (Qns h1 (k : Int))
    simp only [Option.map_some, Option.getD_some]
    omega
  · rw [List.getElem?_eq_none (Nat.le_of_not_lt hj)]; simp
theorem Qmn (k : Nat) : ∀ j : Nat, -(240000000000 * (j : Int)) ≤ Y5 secs f k j ∧ Y5 secs f k j ≤ 240000000000 * (j : Int)
  | 0 => by simp [Y5]
  | j + 1 => by
    have h1 := Qmn k j
    have h2 := QOv hs hf k j
    simp only [Y5]
    omega
end
theorem Qtm {secs : List FeedSection} {f : Nat → Int} {k j : Nat} (hj : j < secs.length) : (secs[j]?.map fun s => XT s (f j) * X0 s (k : Int)).getD 0 = XT secs[j] (f j) * X0 secs[j] (k : Int) := by
  rw [List.getElem?_eq_getElem hj]; rfl
theorem Qvo (m j : Nat) (hj : j < m) (f g : Nat → Int) : ((List.range m).map fun i => if i < j then g i else f i).set j (g j) = (List.range m).map fun i => if i < j + 1 then g i else f i := by
  apply List.ext_getElem?
  intro i
  by_cases hi : i = j
  · subst hi
    rw [List.getElem?_set_self (by simpa using hj)]
    simp [hj]
  · rw [List.getElem?_set_ne (Ne.symm hi)]
    by_cases him : i < m
    · simp only [List.getElem?_map, List.getElem?_range him, Option.map_some, Option.some.injEq]
      by_cases h1 : i < j
      · rw [if_pos h1, if_pos (by omega)]
      · rw [if_neg h1, if_neg (by omega)]
    · simp [him]
theorem Qtq (m j : Nat) (hj : j < m) (f g : Nat → Int) : idx ((List.range m).map fun i => if i < j then g i else f i) (j : Int) = some (f j) := by
  rw [XD?]
  simp [hj]
theorem QBl {s : FeedSection} (hs : Z0 s) {p : Int} (hp : -160000 ≤ p ∧ p ≤ 160000) {m : Nat} (hm : m < 1000) {f : Nat → Int} (hf : ∀ i, -1000000000000000 ≤ f i ∧ f i ≤ 1000000000000000) :
    loop (Qbm p s ((List.range m).map f)) ((List.range m).map f, 0) = some ((List.range m).map fun i => f i + XT s p * X0 s (i : Int)) := by
  have e0 : ((List.range m).map fun i => if i < 0 then f i + XT s p * X0 s (i : Int) else f i) = (List.range m).map f := by
    apply List.map_congr_left; intro i _; simp
  have eN : ((List.range m).map fun i => if i < m then f i + XT s p * X0 s (i : Int) else f i) = (List.range m).map fun i => f i + XT s p * X0 s (i : Int) := by
    apply List.map_congr_left; intro i hi; rw [if_pos (List.mem_range.1 hi)]
  have hlen : (((List.range m).map f).length : Int) = (m : Int) := by simp
  have key := ZQ (step := Qbm p s ((List.range m).map f)) (o := (List.range m).map fun i => f i + XT s p * X0 s (i : Int)) (fun j => ((List.range m).map fun i => if i < j then f i + XT s p * X0 s (i : Int) else f i, (j : Int))) m (fun j hj => by
    have hb := Qdw (Qgd hs hp) (Qns hs (j : Int))
    have hfj := hf j
    unfold Qbm
    simp only [hlen, XV hj, cond_true, Qtq m j hj f (fun i => f i + XT s p * X0 s (i : Int)), QB]
    rw [Qqc hs hp, QB, QBk hs, QB, XS (x := XT s p * X0 s (j : Int)) (by omega), XS (x := f j + XT s p * X0 s (j : Int)) (by omega), XX j (by omega)]
    simp only [Int.toNat_natCast]
    rw [Qvo m j hj f (fun i => f i + XT s p * X0 s (i : Int))]) (by
    unfold Qbm
    simp only [hlen, XW, cond_false, eN])
  simp only [e0] at key
  exact key
def YD (n : FeedNet) (f : Nat → Int) : List Int := (List.range n.Stations.length).map fun k => Y5 n.Sections f k n.Sections.length
theorem Qqe {n : FeedNet} (hn : NetOk n) {l : List feed_run} (hl : l.length ≤ 8) (h : ∀ r ∈ l, ZG n.Sections.length r) {t : Int} (ht : 0 ≤ t) (ht2 : t ≤ 100000) : JT ⟨n⟩ l t = some (YD n (Xu l t)) := by
  have h1 := hn.st6
  have h2 := hn.se10
  have hs : ∀ s ∈ n.Sections, Z0 s := fun s hx => Qwj (hn.sec s hx)
  have hf : ∀ j, -160000 ≤ Xu l t j ∧ Xu l t j ≤ 160000 := fun j => by have := Qnc h t j; omega
  have hlen : (((List.range n.Sections.length).map (Xu l t)).length : Int) = (n.Sections.length : Int) := by simp
  have key : loop (Qde ⟨n⟩ ((List.range n.Sections.length).map (Xu l t))) ((List.range n.Stations.length).map (fun _ => (0 : Int)), 0) = some (YD n (Xu l t)) :=
    ZQ (fun j => ((List.range n.Stations.length).map (fun k => Y5 n.Sections (Xu l t) k j), (j : Int))) n.Sections.length (fun j hj => by
      have hb : ∀ k, -1000000000000000 ≤ Y5 n.Sections (Xu l t) k j ∧ Y5 n.Sections (Xu l t) k j ≤ 1000000000000000 := fun k => by have := Qmn hs hf k j; omega
      have hidx : idx ((List.range n.Sections.length).map (Xu l t)) (j : Int) = some (Xu l t j) := by rw [XD?]; simp [hj]
      unfold Qde
      simp only [hlen, XV hj, cond_true, hidx, QB, XD hj]
      rw [QBl (hs _ (List.getElem_mem hj)) (hf j) (by omega) hb, QB, XX j (by omega)]
      congr 3
      apply List.map_congr_left
      intro k _
      simp only [Y5, Qtm hj]) (by
      unfold Qde YD
      simp only [hlen, XW, cond_false])
  unfold JT
  show (Option.bind (mk (n.Stations.length : Int) (0 : Int)) _) = _
  rw [Qmp _ (by omega), QB, QKi (by omega) hl h ht ht2, QB, key]
  rfl
theorem QKq {s : FeedSection} (hs : Z0 s) {p : Int} (hp : -160000 ≤ p ∧ p ≤ 160000) {m : Nat} (hm : m < 1000) {f : Nat → Int} (hf : ∀ i, -1000000000000000 ≤ f i ∧ f i ≤ 1000000000000000) :
    loop (Qei s (XT s p)) ((List.range m).map f, 0) = some ((List.range m).map fun i => f i + XT s p * X0 s (i : Int)) := by
  have e0 : ((List.range m).map fun i => if i < 0 then f i + XT s p * X0 s (i : Int) else f i) = (List.range m).map f := by
    apply List.map_congr_left; intro i _; simp
  have eN : ((List.range m).map fun i => if i < m then f i + XT s p * X0 s (i : Int) else f i) = (List.range m).map fun i => f i + XT s p * X0 s (i : Int) := by
    apply List.map_congr_left; intro i hi; rw [if_pos (List.mem_range.1 hi)]
  have key := ZQ (step := Qei s (XT s p)) (o := (List.range m).map fun i => f i + XT s p * X0 s (i : Int)) (fun j => ((List.range m).map fun i => if i < j then f i + XT s p * X0 s (i : Int) else f i, (j : Int))) m (fun j hj => by
    have hb := Qdw (Qgd hs hp) (Qns hs (j : Int))
    have hfj := hf j
    have hlen : (((List.range m).map fun i => if i < j then f i + XT s p * X0 s (i : Int) else f i).length : Int) = (m : Int) := by simp
    unfold Qei
    simp only [hlen, XV hj, cond_true, Qtq m j hj f (fun i => f i + XT s p * X0 s (i : Int)), QB]
    rw [Qvn hs, QB, XS (x := XT s p * X0 s (j : Int)) (by omega), XS (x := f j + XT s p * X0 s (j : Int)) (by omega), XX j (by omega)]
    simp only [Int.toNat_natCast]
    rw [Qvo m j hj f (fun i => f i + XT s p * X0 s (i : Int))]) (by
    have hlen : (((List.range m).map fun i => f i + XT s p * X0 s (i : Int)).length : Int) = (m : Int) := by simp
    unfold Qei
    simp only [eN, hlen, XW, cond_false])
  simp only [e0] at key
  exact key
theorem QKr {n : FeedNet} (hn : NetOk n) {l : List FeedDeparture} {t : Int} {f : Nat → Int} (hf : ∀ j, -160000 ≤ f j ∧ f j ≤ 160000) (hp : ∀ j : Nat, j < n.Sections.length → Qej n l (j : Int) t = some (f j)) : Qag n l t = some (YD n f) := by
  have h1 := hn.st6
  have h2 := hn.se10
  have hs : ∀ s ∈ n.Sections, Z0 s := fun s hx => Qwj (hn.sec s hx)
  have key : loop (Qhx l n t) ((List.range n.Stations.length).map (fun _ => (0 : Int)), 0) = some (YD n f) :=
    ZQ (fun j => ((List.range n.Stations.length).map (fun k => Y5 n.Sections f k j), (j : Int))) n.Sections.length (fun j hj => by
      have hb : ∀ k, -1000000000000000 ≤ Y5 n.Sections f k j ∧ Y5 n.Sections f k j ≤ 1000000000000000 := fun k => by have := Qmn hs hf k j; omega
      unfold Qhx
      simp only [XV hj, cond_true, XD hj, QB, hp j hj]
      rw [QKp (hs _ (List.getElem_mem hj)) (hf j), QB, QKq (hs _ (List.getElem_mem hj)) (hf j) (by omega) hb, QB, XX j (by omega)]
      congr 3
      apply List.map_congr_left
      intro k _
      simp only [Y5, Qtm hj]) (by
      unfold Qhx YD
      simp only [XW, cond_false])
  unfold Qag
  rw [Qmp _ (by omega), QB, key]
  rfl
end Go.Gw

end
section
set_option maxRecDepth 4096
namespace Go.Gw
open Go
def pd (t : Int) (s : Nat) (r : feed_run) : List Int := if 0 ≤ t - r.at_ ∧ t - r.at_ ≤ (r.FeedTrain.Steps.length : Int) - 1 then (match r.FeedTrain.Steps[(t - r.at_).toNat]? with | some x => if x.Section = (s : Int) then [x.Power] else [] | none => []) else []
theorem QKh (t : Int) (s : Nat) (r : feed_run) : (pd t s r).sum = ZM r.FeedTrain.Steps (t - r.at_) s := by
  unfold pd ZM
  by_cases h : 0 ≤ t - r.at_ ∧ t - r.at_ ≤ (r.FeedTrain.Steps.length : Int) - 1
  · rw [if_pos h, if_pos h]
    cases hx : r.FeedTrain.Steps[(t - r.at_).toNat]? with
    | none => rfl
    | some x => by_cases hs : x.Section = (s : Int) <;> simp [hs]
  · rw [if_neg h, if_neg h]; rfl
theorem QKf (t : Int) (s : Nat) (r : feed_run) : (pd t s r).length ≤ 1 := by
  unfold pd
  split
  · split
    · split <;> simp
    · simp
  · simp
theorem QKg {m : Nat} {r : feed_run} (h : ZG m r) (t : Int) (s : Nat) : ∀ x ∈ pd t s r, -20000 ≤ x ∧ x ≤ 20000 := by
  intro x hx
  unfold pd at hx
  split at hx
  · split at hx
    · rename_i y hy
      split at hx
      · obtain rfl := List.mem_singleton.1 hx
        have := h.1 y (List.mem_of_getElem? hy); omega
      · cases hx
    · cases hx
  · cases hx
theorem Qtk (t : Int) (s : Nat) : ∀ l : List feed_run, (l.flatMap (pd t s)).sum = Xu l t s
  | [] => rfl
  | r :: l => by
    rw [List.flatMap_cons, List.sum_append, Qtk t s l, QKh]
    simp [Xu]
theorem Qmd (t : Int) (s : Nat) : ∀ l : List feed_run, (l.flatMap (pd t s)).length ≤ l.length
  | [] => by simp
  | r :: l => by
    rw [List.flatMap_cons, List.length_append]
    have := Qmd t s l
    have := QKf t s r
    rw [List.length_cons]; omega
theorem QKv {n : FeedNet} (hn : n.Trains.length < 1000) {l : List FeedDeparture} (hl : l.length ≤ 8) {m : Nat} (h0 : ∀ d ∈ l, 0 ≤ Yd n d.Train) (h : ∀ d ∈ l, ZG m (Q7 n d)) {t : Int} (ht : 0 ≤ t) (ht2 : t ≤ 100000) (s : Nat) :
    Qej n l (s : Int) t = some (Xu (l.map (Q7 n)) t s) := by
  have key : loop (Qic l n (s : Int) t) (([] : List Int), 0) = some ((l.map (Q7 n)).flatMap (pd t s)) :=
    ZQ (fun k => (((l.take k).map (Q7 n)).flatMap (pd t s), (k : Int))) l.length (fun k hk => by
      have hd := List.getElem_mem hk
      obtain ⟨T, h1, h2, h3⟩ := Qfa (h0 _ hd)
      have hr := h _ hd
      have hrun : Q7 n l[k] = feed_run.mk T l[k].At := by unfold Q7; rw [h1]; rfl
      obtain ⟨r1, r2, r3, r4⟩ := hr
      rw [hrun] at r1 r2 r3 r4
      have hidx : idx n.Trains (Yd n l[k].Train) = some T := by unfold idx; rw [if_pos (h0 _ hd)]; exact h1
      have hlen := Qmd t s ((l.take k).map (Q7 n))
      have hnext : ((l.take k).map (Q7 n)).flatMap (pd t s) ++ pd t s (Q7 n l[k]) = ((l.take (k + 1)).map (Q7 n)).flatMap (pd t s) := by
        rw [← Qiv l (Q7 n) k hk, List.flatMap_append]; simp
      have hlk : ((l.take k).map (Q7 n)).length ≤ 8 := by simp; omega
      unfold Qic
      simp only [XV hk, cond_true, XD hk, QB]
      rw [Qhk n _ (by omega), QB, hidx, QB, QB]
      simp only []
      simp only at r2 r3 r4
      rw [XS (x := t - l[k].At) (by omega), XS (x := (T.Steps.length : Int) - 1) (by omega), J9, QB, XX k (by omega), ← hnext, hrun]
      unfold pd
      by_cases hin : 0 ≤ t - l[k].At ∧ t - l[k].At ≤ (T.Steps.length : Int) - 1
      · have hk2 : (t - l[k].At).toNat < T.Steps.length := by omega
        have hi2 : idx T.Steps (t - l[k].At) = some T.Steps[(t - l[k].At).toNat] := by unfold idx; rw [if_pos hin.1, List.getElem?_eq_getElem hk2]
        rw [decide_eq_true hin.1, decide_eq_true hin.2, if_pos hin, List.getElem?_eq_getElem hk2]
        simp only [Bool.and_self, cond_true, Bool.true_and, hi2, QB]
        by_cases hsec : T.Steps[(t - l[k].At).toNat].Section = (s : Int)
        · rw [decide_eq_true hsec, if_pos hsec, cond_true, JQ (by show (((l.take k).map (Q7 n)).flatMap (pd t s)).length + 1 ≤ 1073741824; omega), QB]
        · rw [decide_eq_false hsec, if_neg hsec, cond_false, List.append_nil]
      · have e : (decide (0 ≤ t - l[k].At) && decide (t - l[k].At ≤ (T.Steps.length : Int) - 1)) = false := by
          rw [Bool.eq_false_iff]; intro e; simp only [Bool.and_eq_true, decide_eq_true_eq] at e; exact hin e
        rw [e, if_neg hin]
        simp only [cond_false, QB, Bool.false_and, List.append_nil]) (by
      unfold Qic
      simp only [XW, cond_false, List.take_length])
  unfold Qej Qnm
  rw [key, QB, QB, QNz (c := 20000) (by omega) (by omega) (fun x hx => ?_) (by have := Qmd t s (l.map (Q7 n)); rw [List.length_map] at this; omega), QB, Qtk]
  obtain ⟨r, hr, hx⟩ := List.mem_flatMap.1 hx
  obtain ⟨d, hd, rfl⟩ := List.mem_map.1 hr
  exact QKg (h d hd) t s x hx
end Go.Gw

end
section
set_option maxRecDepth 4096
namespace Go.Gw
open Go
noncomputable def Qpv (f : Frac) : Int := if 0 < f.Den ∧ Qoy f.Num f.Den = some 1 then (if -1000000000 ≤ f.Num ∧ f.Num ≤ 1000000000 ∧ f.Den ≤ 1000000000 then 0 else 2) else 3
noncomputable def QAr : List Frac → Int
  | [] => 0
  | f :: l => if Qpv f = 0 then QAr l else Qpv f
end Go.Gw

end
section
set_option maxRecDepth 4096
namespace Go.Gw
open Go
def Qgc (n : FeedNet) (l : List FeedDeparture) : Int := if 6 < l.length then 8 else match XZ (YP n l) l.length with | some i => YP n l i | none => 0
def Zg (n : FeedNet) (l : List FeedDeparture) : Int := if (Jj n).2 ≠ 0 then (Jj n).2 else Qgc n l
def QQq (n : FeedNet) (s : Int) : Int := if 0 ≤ s ∧ s ≤ (n.Sections.length : Int) - 1 then 0 else 6
def QQr (t : Int) : Int := if 0 ≤ t ∧ t ≤ 1012 then 0 else 2
theorem Qok (a b : Prop) [Decidable a] [Decidable b] : (decide a && decide b) = decide (a ∧ b) := (Bool.decide_and a b).symm
theorem Qve {n : FeedNet} (h : NetS n) (l : List FeedDeparture) : JV n l = some (⟨n⟩, (if Zg n l = 0 then l.map (Q7 n) else []), Zg n l) := by
  unfold JV Qdk Zg
  rw [QBj h, QB, QB]
  by_cases h0 : (Jj n).2 = 0
  · simp only [h0, ne_eq, not_true_eq_false, if_false, decide_true, Bool.not_true, cond_false]
    rw [show feed_net.mk (FeedNet.mk n.Stations n.Sections n.Trains) = feed_net.mk n from rfl, QBq n l h.tr, QB]
    unfold Qgc
    by_cases h6 : 6 < l.length
    · simp [h6]
    · rw [if_neg h6, if_neg h6]
      rcases Qbu (YP n l) l.length with ⟨e, _⟩ | ⟨i, e, _, hi, _⟩
      · rw [e]; simp
      · rw [e]; simp [hi]
  · simp [h0]
theorem QKm {n : FeedNet} (h : NetS n) (l : List FeedDeparture) : Qhl n l = some (Zg n l) := by
  unfold Qhl Qng Zg Qgc
  rw [QKo h, QB]
  by_cases h0 : (Jj n).2 = 0
  · simp only [h0, ne_eq, not_true_eq_false, if_false, decide_true, Bool.not_true, cond_false, QB]
    rw [QKn n l h.tr, QB]
    by_cases h6 : 6 < l.length
    · rw [if_pos h6, if_pos h6]
    · rw [if_neg h6, if_neg h6]
      cases XZ (YP n l) l.length <;> rfl
  · simp [h0]
theorem QGh (a b : Int) : Zi [a, b] = if a ≠ 0 then a else b := by
  unfold Zi Zi Zi; by_cases h : a = 0 <;> by_cases h2 : b = 0 <;> simp [h, h2]
theorem Qke {n : FeedNet} {l : List FeedDeparture} (h : Zg n l = 0) : NetOk n ∧ l.length ≤ 6 ∧ ∀ d ∈ l, ZG n.Sections.length (Q7 n d) ∧ 0 ≤ Yd n d.Train := by
  unfold Zg at h
  by_cases h0 : (Jj n).2 = 0
  · have hn := QHn h0
    simp only [h0, ne_eq, not_true_eq_false, if_false] at h
    unfold Qgc at h
    by_cases h6 : 6 < l.length
    · rw [if_pos h6] at h; omega
    · rw [if_neg h6] at h
      refine ⟨hn, by omega, fun d hd => ?_⟩
      obtain ⟨k, hk, rfl⟩ := List.getElem_of_mem hd
      have hz := Qti h k hk
      unfold YP at hz
      rw [List.getElem?_eq_getElem hk] at hz
      exact ⟨QLy hn hz, Qkj hz⟩
  · rw [if_pos h0] at h; exact absurd h h0
end Go.Gw

end
section
set_option maxRecDepth 4096
namespace Go.Gw
open Go
def JI (n : FeedNet) (s : Int) : Int := if 0 ≤ s ∧ s ≤ (n.Stations.length : Int) - 1 then 0 else 6
theorem QBu {n : FeedNet} (hn : n.Stations.length < 1000) (s : Int) : Qgp ⟨n⟩ s = some (JI n s) := by
  unfold Qgp JI
  simp only []
  rw [XS (x := (n.Stations.length : Int) - 1) (by omega), Qai, QB, Jr, QB, Qok]
  by_cases h : 0 ≤ s ∧ s ≤ (n.Stations.length : Int) - 1 <;> simp [h]
theorem QKz {n : FeedNet} (hn : n.Stations.length < 1000) (s : Int) : Qib n s = some (JI n s) := by
  unfold Qib Qcf JI
  rw [XS (x := (n.Stations.length : Int) - 1) (by omega), J9, QB, QB, Qok]
  by_cases h : 0 ≤ s ∧ s ≤ (n.Stations.length : Int) - 1 <;> simp [h]
def JB (r : feed_run) (t : Int) : Bool := decide (0 ≤ t - r.at_) && decide (t - r.at_ ≤ (r.FeedTrain.Steps.length : Int) - 1)
theorem Qto {l : List feed_run} {t : Int} (h : l.any (fun r => JB r t) = false) : Xu l t = fun _ => 0 := by
  funext s
  unfold Xu
  induction l with
  | nil => rfl
  | cons r l ih =>
    rw [List.any_cons, Bool.or_eq_false_iff] at h
    rw [List.map_cons, List.sum_cons, ih h.2]
    have h1 := h.1
    unfold JB at h1
    rw [Qok, decide_eq_false_iff_not] at h1
    unfold ZM
    rw [if_neg h1]; rfl
def Zt (n : FeedNet) (l : List FeedDeparture) (t : Int) (s : Nat) : Int := Y5 n.Sections (Xu (l.map (Q7 n)) t) s n.Sections.length
theorem Qgw (n : FeedNet) (l : List FeedDeparture) (t : Int) {s : Int} (h : 0 ≤ s ∧ s ≤ (n.Stations.length : Int) - 1) : idx (YD n (Xu (l.map (Q7 n)) t)) s = some (Zt n l t s.toNat) := by
  unfold idx YD
  rw [if_pos h.1, List.getElem?_map, List.getElem?_range (by omega)]; rfl
structure Rt (n : FeedNet) (l : List FeedDeparture) : Prop where
  ne : NetOk n
  tr : n.Trains.length < 1000
  l6 : l.length ≤ 6
  ru : ∀ d ∈ l, ZG n.Sections.length (Q7 n d) ∧ 0 ≤ Yd n d.Train
theorem Qnp {n : FeedNet} (h : NetS n) {l : List FeedDeparture} (hb : Zg n l = 0) : Rt n l := ⟨(Qke hb).1, h.tr, (Qke hb).2.1, (Qke hb).2.2⟩
section
variable {n : FeedNet} {l : List FeedDeparture} (h : Rt n l)
include h
theorem Qeo : ∀ r ∈ l.map (Q7 n), ZG n.Sections.length r := fun r hr => by obtain ⟨d, hd2, rfl⟩ := List.mem_map.1 hr; exact (h.ru d hd2).1
theorem Qqd {t : Int} (ht : 0 ≤ t) (ht2 : t ≤ 100000) : JT ⟨n⟩ (l.map (Q7 n)) t = some (YD n (Xu (l.map (Q7 n)) t)) :=
  Qqe h.ne (by rw [List.length_map]; have := h.l6; omega) (Qeo h) ht ht2
theorem Qne {t : Int} (ht : 0 ≤ t) (ht2 : t ≤ 100000) : Qag n l t = some (YD n (Xu (l.map (Q7 n)) t)) :=
  QKr h.ne (fun j => by have := Qnc (Qeo h) t j; rw [List.length_map] at this; have := h.l6; omega) (fun j _ => QKv h.tr (by have := h.l6; omega) (fun d hd => (h.ru d hd).2) (fun d hd => (h.ru d hd).1) ht ht2 j)
def JF (n : FeedNet) (l : List FeedDeparture) (s : Nat) (k : Nat) (a : Int × Int) : Int × Int := if a.2 < Zt n l ((k : Int) + 1) s then ((k : Int) + 1, Zt n l ((k : Int) + 1) s) else a
def Qed (n : FeedNet) (l : List FeedDeparture) (s : Nat) : Int × Int := rng (JF n l s) (0, Zt n l 0 s) 1012
theorem QBp {s : Int} (hs : 0 ≤ s ∧ s ≤ (n.Stations.length : Int) - 1) (e : Int) : loop (Qdc s (⟨n⟩, l.map (Q7 n), e)) (1, 0, Zt n l 0 s.toNat) = some (Qed n l s.toNat) := by
  refine (Qud (step := Qdc s (⟨n⟩, l.map (Q7 n), e)) 1012 (JF n l s.toNat) (fun a k => ((k : Int) + 1, a.1, a.2)) (fun a => (a.1, a.2)) (fun _ _ => True) (0, Zt n l 0 s.toNat) trivial (fun k hk a _ => ⟨?_, trivial⟩) (fun a _ => ?_)).1
  · unfold Qdc JF
    simp only []
    rw [decide_eq_true (by omega), cond_true, show feed_net.mk (FeedNet.mk n.Stations n.Sections n.Trains) = feed_net.mk n from rfl, Qqd h (by omega) (by omega), QB, Qgw n l _ hs, QB, XS (x := (k : Int) + 1 + 1) (by omega)]
    by_cases hc : a.2 < Zt n l ((k : Int) + 1) s.toNat
    · rw [decide_eq_true hc, if_pos hc, cond_true]; simp
    · rw [decide_eq_false hc, if_neg hc, cond_false]; simp
  · unfold Qdc
    rfl
theorem Qpj {t : Int} (ht : 0 ≤ t) (ht2 : t ≤ 100000) : Qel n l t = some ((l.map (Q7 n)).any fun r => JB r t) := by
  unfold Qel
  rw [ZR l (fun d => JB (Q7 n d) t) (fun _ _ => true), QB, List.any_map]
  · rcases J0 (p := fun d => JB (Q7 n d) t) (res := fun _ _ => true) l 0 with ⟨e1, e2⟩ | ⟨j, x, e1, _, e2⟩
    · rw [e1]; show _ = some (l.any fun d => JB (Q7 n d) t); rw [e2]; rfl
    · rw [e1]; show _ = some (l.any fun d => JB (Q7 n d) t); rw [e2]; rfl
  · intro k hk
    have hd := List.getElem_mem hk
    obtain ⟨T, h1, h2, h3⟩ := Qfa (h.ru _ hd).2
    have hr := (h.ru _ hd).1
    have hrun : Q7 n l[k] = feed_run.mk T l[k].At := by unfold Q7; rw [h1]; rfl
    obtain ⟨r1, r2, r3, r4⟩ := hr
    rw [hrun] at r1 r2 r3 r4
    simp only at r2 r3 r4
    have hidx : idx n.Trains (Yd n l[k].Train) = some T := by unfold idx; rw [if_pos (h.ru _ hd).2]; exact h1
    have := h.l6
    unfold Qni JB
    rw [hrun, XV hk, cond_true, XD hk, QB, QB, Qhk n _ (by have := h.tr; omega), QB, hidx, QB, XS (x := t - l[k].At) (by omega), XS (x := (T.Steps.length : Int) - 1) (by omega), J9, QB, XX k (by omega)]
  · unfold Qni
    rw [XW]; rfl
theorem QKu {s : Int} (hs : 0 ≤ s ∧ s ≤ (n.Stations.length : Int) - 1) : Qhz n l s = some (FeedPeak.mk (Qed n l s.toNat).1 s (Qed n l s.toNat).2) := by
  have key := (Qud (step := Qhy l n s) 1012 (JF n l s.toNat) (fun a k => ((k : Int) + 1, a.1, a.2)) (fun a => (a.1, a.2)) (fun a k => Zt n l (k : Int) s.toNat ≤ a.2) (0, Zt n l 0 s.toNat) (Int.le_refl _) (fun k hk a ha => ?_) (fun a _ => ?_)).1
  · unfold Qhz
    rw [Qne h (by omega) (by omega), QB, Qgw n l _ hs, QB]
    exact (congrArg (fun o => Option.bind o _) key).trans rfl
  · have hinv : Zt n l ((k + 1 : Nat) : Int) s.toNat ≤ (JF n l s.toNat k a).2 := by
      unfold JF
      rw [show ((k + 1 : Nat) : Int) = (k : Int) + 1 by omega]
      split
      · exact Int.le_refl _
      · omega
    refine ⟨?_, hinv⟩
    unfold Qhy
    simp only []
    rw [decide_eq_true (show (k : Int) + 1 ≤ 1012 by omega), cond_true, Qpj h (by omega) (by omega), QB, XS (x := (k : Int) + 1 - 1) (by omega), show (k : Int) + 1 - 1 = (k : Int) by omega, XS (x := (k : Int) + 1 + 1) (by omega)]
    have hgo : (Option.bind (Qag n l ((k : Int) + 1)) fun r371 => Option.bind (idx r371 s) fun el380 => bif decide (a.2 < el380) then (some (.inl ((k : Int) + 1 + 1, (k : Int) + 1, el380)) : Option ((Int × Int × Int) ⊕ (Int × Int))) else some (.inl ((k : Int) + 1 + 1, a.1, a.2))) = some (.inl (((k + 1 : Nat) : Int) + 1, (JF n l s.toNat k a).1, (JF n l s.toNat k a).2)) := by
      rw [Qne h (by omega) (by omega), QB, Qgw n l _ hs, QB]
      unfold JF
      by_cases hc : a.2 < Zt n l ((k : Int) + 1) s.toNat
      · rw [decide_eq_true hc, if_pos hc, cond_true]; simp
      · rw [decide_eq_false hc, if_neg hc, cond_false]; simp
    cases hb1 : (l.map (Q7 n)).any fun r => JB r ((k : Int) + 1) with
    | true => simp only [Bool.not_true, cond_false, QB, Bool.false_and]; exact hgo
    | false =>
      simp only [Bool.not_false, cond_true, Bool.true_and]
      rw [Qpj h (by omega) (by omega), QB]
      cases hb2 : (l.map (Q7 n)).any fun r => JB r (k : Int) with
      | true => simp only [Bool.not_true, cond_false]; exact hgo
      | false =>
        simp only [Bool.not_false, cond_true]
        have e : Zt n l ((k : Int) + 1) s.toNat = Zt n l (k : Int) s.toNat := by unfold Zt; rw [Qto hb1, Qto hb2]
        unfold JF
        rw [e, if_neg (by omega)]; simp
  · unfold Qhy
    rfl
end
end Go.Gw

end
section
set_option maxRecDepth 4096
namespace Go.Gw
open Go
def fsO {α ρ μ : Type} (o : Option α) (res : α → ρ) (u : μ) : ρ ⊕ μ := match o with | some a => .inl (res a) | none => .inr u
theorem Qhc {α σ ρ μ : Type} {step : σ → Option (σ ⊕ (ρ ⊕ μ))} (S : Nat → σ) (n : Nat) (f : Nat → Option α) (res : α → ρ) (o : μ)
    (hs : ∀ k, k < n → step (S k) = some (match f k with | some a => .inr (.inl (res a)) | none => .inl (S (k + 1))))
    (he : step (S n) = some (.inr (.inr o))) : loop step (S 0) = some (fsO ((List.range n).findSome? f) res o) := by
  have key : ∀ j k, k + j = n → loop step (S k) = some (fsO ((List.range' k j).findSome? f) res o) := by
    intro j
    induction j with
    | zero => intro k hk; obtain rfl : k = n := by omega
              exact Qau he
    | succ j ih =>
      intro k hk
      have h1 := hs k (by omega)
      rw [List.range'_succ, List.findSome?_cons]
      cases hf : f k with
      | some a => rw [hf] at h1; exact Qau h1
      | none => rw [hf] at h1; rw [Qdv h1]; exact ih (k + 1) (by omega)
  rw [List.range_eq_range']
  exact key n 0 (by omega)
theorem Qgs {α β : Type} (f : β → α → β) (a : β) (l : List α) (k : Nat) (hk : k < l.length) : (l.take (k + 1)).foldl f a = f ((l.take k).foldl f a) l[k] := by
  rw [List.take_add_one, List.getElem?_eq_getElem hk, List.foldl_append]; rfl
def loF (a : Int) (r : feed_run) : Int := if r.at_ < a then r.at_ else a
def hiF (a : Int) (r : feed_run) : Int := if a < r.at_ + 12 then r.at_ + 12 else a
def YC (rs : List feed_run) : Int := rs.foldl loF 1012
def Zs (rs : List feed_run) : Int := rs.foldl hiF 0
def Qdu (n : FeedNet) (k : Nat) : Int := (n.Stations[k]?.map (·.Limit)).getD 0
def ldR (n : FeedNet) (rs : List feed_run) (t : Int) (k : Nat) : Int := Y5 n.Sections (Xu rs t) k n.Sections.length
def ov1 (n : FeedNet) (rs : List feed_run) (t : Int) (k : Nat) : Option FeedPeak := if 1000000 * Qdu n k < ldR n rs t k then some (FeedPeak.mk t k (ldR n rs t k)) else none
def ZU (n : FeedNet) (rs : List feed_run) (t : Int) : Option FeedPeak := (List.range n.Stations.length).findSome? (ov1 n rs t)
def JY (n : FeedNet) (rs : List feed_run) : Option FeedPeak := (List.range (Zs rs - YC rs + 1).toNat).findSome? fun (j : Nat) => ZU n rs (YC rs + j)
def pkB (o : Option FeedPeak) : FeedPeak × Bool := match o with | some p => (p, true) | none => (FeedPeak.mk 0 0 0, false)
theorem Quc {rs : List feed_run} (h : ∀ r ∈ rs, 0 ≤ r.at_ ∧ r.at_ ≤ 1000) : 0 ≤ YC rs ∧ YC rs ≤ 1012 := by
  have key : ∀ (l : List feed_run) a, (∀ r ∈ l, 0 ≤ r.at_ ∧ r.at_ ≤ 1000) → 0 ≤ a ∧ a ≤ 1012 → 0 ≤ l.foldl loF a ∧ l.foldl loF a ≤ 1012 := by
    intro l
    induction l with
    | nil => intro a _ h; exact h
    | cons r l ih =>
      intro a hr ha
      have := hr r (List.mem_cons_self ..)
      exact ih _ (fun x hx => hr x (List.mem_cons_of_mem _ hx)) (by unfold loF; split <;> omega)
  exact key rs 1012 h (by omega)
theorem Qtn {rs : List feed_run} (h : ∀ r ∈ rs, 0 ≤ r.at_ ∧ r.at_ ≤ 1000) : 0 ≤ Zs rs ∧ Zs rs ≤ 1012 := by
  have key : ∀ (l : List feed_run) a, (∀ r ∈ l, 0 ≤ r.at_ ∧ r.at_ ≤ 1000) → 0 ≤ a ∧ a ≤ 1012 → 0 ≤ l.foldl hiF a ∧ l.foldl hiF a ≤ 1012 := by
    intro l
    induction l with
    | nil => intro a _ h; exact h
    | cons r l ih =>
      intro a hr ha
      have := hr r (List.mem_cons_self ..)
      exact ih _ (fun x hx => hr x (List.mem_cons_of_mem _ hx)) (by unfold hiF; split <;> omega)
  exact key rs 0 h (by omega)
theorem Qpt (x y : Int) : Qaa x y = some (if x < y then -1 else if y < x then 1 else 0) := by
  unfold Qaa Qcv
  simp only [decide_true, Bool.not_true, QB, cond_false]
  by_cases h1 : x < y
  · simp [h1]
  · by_cases h2 : y < x <;> simp [h1, h2]
def mnF (a r : feed_run) : feed_run := if r.at_ < a.at_ then r else a
def Ji (a r : feed_run) : feed_run := if a.at_ < r.at_ then r else a
def Jy (r : feed_run) : ByteArray × Int × Int × List FeedStep × Int := (r.FeedTrain.Name, r.FeedTrain.Earliest, r.FeedTrain.Latest, r.FeedTrain.Steps, r.at_)
theorem QHh (r0 : feed_run) (l : List feed_run) (hl : l.length < 1000000) : Qew (r0 :: l) = some (l.foldl mnF r0) := by
  have key : loop (Qev (r0 :: l)) (1, Jy r0) = some (Jy (l.foldl mnF r0)) :=
    ZQ (fun k => ((k : Int) + 1, Jy ((l.take k).foldl mnF r0))) l.length (fun k hk => by
      unfold Qev Qbn Jy
      have hi : idx (r0 :: l) ((k : Int) + 1) = some l[k] := by
        rw [show (k : Int) + 1 = ((k + 1 : Nat) : Int) by omega, XD (show k + 1 < (r0 :: l).length by simpa using hk)]; rfl
      simp only [hi, QB, Qpt, Qgs _ _ _ _ hk]
      rw [decide_eq_true (by simp; omega), cond_true, XS (x := (k : Int) + 1 + 1) (by omega)]
      generalize List.foldl mnF r0 (List.take k l) = a
      unfold mnF
      by_cases h1 : l[k].at_ < a.at_
      · simp [h1]
      · by_cases h2 : a.at_ < l[k].at_ <;> simp [h1, h2]) (by
      unfold Qev
      rw [List.take_length]
      unfold Jy
      simp)
  unfold Qew
  rw [decide_eq_false (show ¬ (((r0 :: l).length : Nat) : Int) < 1 by simp; omega), cond_false, QB, show idx (r0 :: l) 0 = some r0 from rfl, QB]
  exact (congrArg (fun o => Option.bind o _) key).trans rfl
theorem QHc (r0 : feed_run) (l : List feed_run) (hl : l.length < 1000000) : Qeu (r0 :: l) = some (l.foldl Ji r0) := by
  have key : loop (Qet (r0 :: l)) (1, Jy r0) = some (Jy (l.foldl Ji r0)) :=
    ZQ (fun k => ((k : Int) + 1, Jy ((l.take k).foldl Ji r0))) l.length (fun k hk => by
      unfold Qet Qbn Jy
      have hi : idx (r0 :: l) ((k : Int) + 1) = some l[k] := by
        rw [show (k : Int) + 1 = ((k + 1 : Nat) : Int) by omega, XD (show k + 1 < (r0 :: l).length by simpa using hk)]; rfl
      simp only [hi, QB, Qpt, Qgs _ _ _ _ hk]
      rw [decide_eq_true (by simp; omega), cond_true, XS (x := (k : Int) + 1 + 1) (by omega)]
      generalize List.foldl Ji r0 (List.take k l) = a
      unfold Ji
      by_cases h1 : l[k].at_ < a.at_
      · have h2 : ¬ a.at_ < l[k].at_ := by omega
        simp [h1, h2]
      · by_cases h2 : a.at_ < l[k].at_ <;> simp [h1, h2]) (by
      unfold Qet
      rw [List.take_length]
      unfold Jy
      simp)
  unfold Qeu
  rw [decide_eq_false (show ¬ (((r0 :: l).length : Nat) : Int) < 1 by simp; omega), cond_false, QB, show idx (r0 :: l) 0 = some r0 from rfl, QB]
  exact (congrArg (fun o => Option.bind o _) key).trans rfl
theorem QHj (r0 : feed_run) (l : List feed_run) : (l.foldl mnF r0).at_ = l.foldl loF r0.at_ := by
  induction l generalizing r0 with
  | nil => rfl
  | cons r l ih => rw [List.foldl_cons, List.foldl_cons, ih]; congr 1; unfold mnF loF; split <;> rfl
theorem QHk (r0 : feed_run) (l : List feed_run) : (l.foldl Ji r0).at_ + 12 = l.foldl hiF (r0.at_ + 12) := by
  induction l generalizing r0 with
  | nil => rfl
  | cons r l ih => rw [List.foldl_cons, List.foldl_cons, ih]; congr 1; unfold Ji hiF; split <;> split <;> first | rfl | omega
section
variable {n : FeedNet} {rs : List feed_run} (hn : NetOk n) (hl : rs.length ≤ 8) (h : ∀ r ∈ rs, ZG n.Sections.length r)
include hn
theorem Qub {k : Nat} (hk : k < n.Stations.length) : w64 (1000000 * n.Stations[k].Limit) = 1000000 * Qdu n k := by
  have := hn.lim _ (List.getElem_mem hk)
  unfold Qdu
  rw [XS (by omega), List.getElem?_eq_getElem hk]; rfl
include hl h
theorem QBn {t : Int} (ht : 0 ≤ t) (ht2 : t ≤ 1012) {R : feed_run} (hR : t ≤ R.at_ + 12) (hR2 : R.at_ ≤ 100000) (hR3 : -100000 ≤ R.at_): Qbp rs ⟨n⟩ R t = some (match ZU n rs t with | some p => .inr (.inl (p, true)) | none => .inl (t + 1)) := by
  have hlen : ((YD n (Xu rs t)).length : Int) = (n.Stations.length : Int) := by unfold YD; simp
  have hst := hn.st6
  have key : loop (Qbo ⟨n⟩ (YD n (Xu rs t)) t) 0 = some (fsO (ZU n rs t) (fun p => .inr (.inl (p, true))) ()) :=
    Qhc (ρ := Int ⊕ ((FeedPeak × Bool) ⊕ Unit)) (step := Qbo ⟨n⟩ (YD n (Xu rs t)) t) (fun k => (k : Int)) n.Stations.length (ov1 n rs t) (fun p => .inr (.inl (p, true))) () (fun k hk => by
      have hi : idx (YD n (Xu rs t)) (k : Int) = some (ldR n rs t k) := by
        unfold YD; rw [XD?, List.getElem?_map, List.getElem?_range hk]; rfl
      unfold Qbo ov1
      rw [hlen, XV hk, cond_true, hi, QB]
      simp only [XD hk, QB]
      rw [Qub hn hk, XX k (by omega)]
      by_cases hc : 1000000 * Qdu n k < ldR n rs t k
      · rw [decide_eq_true hc, if_pos hc]; rfl
      · rw [decide_eq_false hc, if_neg hc]; rfl) (by
      unfold Qbo
      rw [hlen, XW]; rfl)
  unfold Qbp
  rw [XS (x := R.at_ + 12) (by omega), decide_eq_true hR, cond_true, Qqe hn hl h ht (by omega), QB, key, QB, XS (x := t + 1) (by omega)]
  cases ZU n rs t <;> rfl
theorem QBo : Qab ⟨n⟩ rs = some (pkB (JY n rs)) := by
  cases rs with
  | nil => simp [Qab, JY, Zs, YC, pkB]
  | cons r0 l =>
    have hat : ∀ r ∈ r0 :: l, 0 ≤ r.at_ ∧ r.at_ ≤ 1000 := fun r hr => ⟨(h r hr).2.2.1, (h r hr).2.2.2⟩
    have h0 := hat r0 (List.mem_cons_self ..)
    have hlo : (l.foldl mnF r0).at_ = YC (r0 :: l) := by
      rw [QHj]; unfold YC; rw [List.foldl_cons]; congr 1; unfold loF; split <;> omega
    have hhi : (l.foldl Ji r0).at_ + 12 = Zs (r0 :: l) := by
      rw [QHk]; unfold Zs; rw [List.foldl_cons]; congr 1; unfold hiF; split <;> omega
    have b1 := Quc hat
    have b2 := Qtn hat
    have hlen : l.length < 1000000 := by rw [List.length_cons] at hl; omega
    have key := Qhc (step := Qbp (r0 :: l) ⟨n⟩ (l.foldl Ji r0)) (fun k => YC (r0 :: l) + (k : Int)) (Zs (r0 :: l) - YC (r0 :: l) + 1).toNat (fun (j : Nat) => ZU n (r0 :: l) (YC (r0 :: l) + j)) (fun p => (p, true)) () (fun k hk => by
      have hk2 : YC (r0 :: l) + (k : Int) ≤ Zs (r0 :: l) := by omega
      rw [QBn hn hl h (R := l.foldl Ji r0) (by omega) (by omega) (by omega) (by omega) (by omega)]
      cases ZU n (r0 :: l) (YC (r0 :: l) + (k : Int)) with
      | some p => rfl
      | none => simp only; congr 2; omega) (by
      unfold Qbp
      rw [XS (x := (l.foldl Ji r0).at_ + 12) (by omega), decide_eq_false (by omega)]; rfl)
    unfold Qab
    rw [decide_eq_false (show ¬ ((((r0 :: l).length : Nat) : Int) = 0) by simp; omega), cond_false, QHh r0 l hlen, QB, QHc r0 l hlen, QB, hlo]
    simp only [Int.natCast_zero, Int.add_zero] at key
    rw [key, QB]
    unfold JY
    cases (List.range (Zs (r0 :: l) - YC (r0 :: l) + 1).toNat).findSome? (fun (j : Nat) => ZU n (r0 :: l) (YC (r0 :: l) + j)) <;> rfl
end
section
variable {n : FeedNet} {l : List FeedDeparture} (h : Rt n l)
include h
theorem QKs {t hi : Int} (ht : 0 ≤ t) (ht2 : t ≤ 1012) (hh : t ≤ hi) : Qeh n l hi t = some (match ZU n (l.map (Q7 n)) t with | some p => .inr (.inl (p, true)) | none => .inl (t + 1)) := by
  have hlen : ((YD n (Xu (l.map (Q7 n)) t)).length : Int) = (n.Stations.length : Int) := by unfold YD; simp
  have hst := h.ne.st6
  have key : loop (Qeg n (YD n (Xu (l.map (Q7 n)) t)) t) 0 = some (fsO (ZU n (l.map (Q7 n)) t) (fun p => .inr (.inl (p, true))) ()) :=
    Qhc (ρ := Int ⊕ ((FeedPeak × Bool) ⊕ Unit)) (step := Qeg n (YD n (Xu (l.map (Q7 n)) t)) t) (fun k => (k : Int)) n.Stations.length (ov1 n (l.map (Q7 n)) t) (fun p => .inr (.inl (p, true))) () (fun k hk => by
      have hi : idx (YD n (Xu (l.map (Q7 n)) t)) (k : Int) = some (ldR n (l.map (Q7 n)) t k) := by
        unfold YD; rw [XD?, List.getElem?_map, List.getElem?_range hk]; rfl
      unfold Qeg ov1
      rw [hlen, XV hk, cond_true, hi, QB]
      simp only [XD hk, QB]
      rw [Qub h.ne hk, XX k (by omega)]
      by_cases hc : 1000000 * Qdu n k < ldR n (l.map (Q7 n)) t k
      · rw [decide_eq_true hc, if_pos hc]; rfl
      · rw [decide_eq_false hc, if_neg hc]; rfl) (by
      unfold Qeg
      rw [hlen, XW]; rfl)
  unfold Qeh
  rw [decide_eq_true hh, cond_true, Qne h ht (by omega), QB, key, QB, XS (x := t + 1) (by omega)]
  cases ZU n (l.map (Q7 n)) t <;> rfl
theorem QKt : Qhw n l = some (pkB (JY n (l.map (Q7 n)))) := by
  have hat : ∀ r ∈ l.map (Q7 n), 0 ≤ r.at_ ∧ r.at_ ≤ 1000 := fun r hr => ⟨(Qeo h r hr).2.2.1, (Qeo h r hr).2.2.2⟩
  have hl := h.l6
  have first : loop (Qhv l) (1012, 0, 0) = some (YC (l.map (Q7 n)), Zs (l.map (Q7 n))) :=
    ZQ (fun k => (((l.map (Q7 n)).take k).foldl loF 1012, ((l.map (Q7 n)).take k).foldl hiF 0, (k : Int))) l.length (fun k hk => by
      have hd := hat (Q7 n l[k]) (List.mem_map.2 ⟨_, List.getElem_mem hk, rfl⟩)
      have e : (Q7 n l[k]).at_ = l[k].At := rfl
      rw [e] at hd
      unfold Qhv
      simp only [XV hk, cond_true, XD hk, QB]
      rw [Qgs _ _ _ _ (by simpa using hk), Qgs _ _ _ _ (by simpa using hk), XS (x := l[k].At + 12) (by omega), XX k (by omega)]
      simp only [List.getElem_map]
      rfl) (by
      unfold Qhv
      simp only [XW, cond_false, YC, Zs]
      rw [List.take_of_length_le (by simp)])
  have b1 := Quc hat
  have b2 := Qtn hat
  have key := Qhc (step := Qeh n l (Zs (l.map (Q7 n)))) (fun k => YC (l.map (Q7 n)) + (k : Int)) (Zs (l.map (Q7 n)) - YC (l.map (Q7 n)) + 1).toNat (fun (j : Nat) => ZU n (l.map (Q7 n)) (YC (l.map (Q7 n)) + j)) (fun p => (p, true)) () (fun k hk => by
    rw [QKs h (by omega) (by omega) (by omega)]
    cases ZU n (l.map (Q7 n)) (YC (l.map (Q7 n)) + (k : Int)) with
    | some p => rfl
    | none => simp only; congr 2; omega) (by
    unfold Qeh
    rw [decide_eq_false (by omega)]; rfl)
  unfold Qhw
  rw [first, QB]
  simp only [Int.natCast_zero, Int.add_zero] at key ⊢
  rw [key, QB]
  unfold JY
  cases (List.range (Zs (l.map (Q7 n)) - YC (l.map (Q7 n)) + 1).toNat).findSome? (fun (j : Nat) => ZU n (l.map (Q7 n)) (YC (l.map (Q7 n)) + j)) <;> rfl
end
end Go.Gw

end
