/- Laws of the walk. Condition: each theorem says its own. -/
import Derived.Test.YtbplgfhjpeeieaaGwTwin
import Derived.Test.YtbplgfhjpeeieaaGwPlan
import Derived.IntWalk
set_option linter.unusedVariables false
set_option linter.unusedSimpArgs false
set_option linter.unusedSectionVars false
section
set_option maxRecDepth 1000000
namespace Go.Gw
open Go
theorem Qzn : Qtt 60 = some true := by decide +kernel
theorem Qzm : Qgw = some true := QGn _ Qzn
end Go.Gw

end
section
set_option linter.unusedSectionVars false
namespace Go.Gw
open Go

theorem Ya {x : Int} (h : -9223372036854775808 ≤ x ∧ x ≤ 9223372036854775807) : w64 x = x := Go.IntWalk.i64_in x h

def Runs {α : Type} (e : Option α) (Q : α → Prop) : Prop := ∃ a, e = some a ∧ Q a

section
variable {α β σ μ : Type} {Q : α → Prop} {e e' : Option α}
theorem Runs.some {a : α} (h : Q a) : Runs (some a) Q := ⟨a, rfl, h⟩
theorem Runs.bind {e : Option β} {f : β → Option α} (h : Runs e fun b => Runs (f b) Q) : Runs (e.bind f) Q := by
  obtain ⟨b, rfl, a, ha, hq⟩ := h; exact ⟨a, ha, hq⟩
theorem Runs.mono {Q' : α → Prop} (h : Runs e Q) (hm : ∀ a, Q a → Q' a) : Runs e Q' := by obtain ⟨a, ha, hq⟩ := h; exact ⟨a, ha, hm _ hq⟩
theorem Runs.eq {a : α} (h : Runs e (· = a)) : e = .some a := by obtain ⟨b, hb, rfl⟩ := h; exact hb
theorem Runs.call {e : Option β} {f : β → Option α} {b : β} (h : e = .some b) (hq : Runs (f b) Q) : Runs (e.bind f) Q := by subst h; exact hq
theorem Runs.bif {b : Bool} (ht : b = true → Runs e Q) (hf : b = false → Runs e' Q) : Runs (bif b then e else e') Q := by
  cases b
  · exact hf rfl
  · exact ht rfl
theorem Runs.jl {b : α} {f : μ → Option α} (h : Q b) : Runs (jn0 (.inl b) f) Q := ⟨b, rfl, h⟩
theorem Runs.j {o : α ⊕ μ} {f : μ → Option α} (hl : ∀ b, o = .inl b → Q b) (hr : ∀ m, o = .inr m → Runs (f m) Q) : Runs (jn0 o f) Q := by
  cases o with
  | inl b => exact Runs.jl (hl b rfl)
  | inr m => exact hr m rfl

def Rnd (I : σ → Prop) (m : σ → Nat) (Q : β → Prop) (s : σ) : σ ⊕ β → Prop
  | .inl s' => I s' ∧ m s' < m s
  | .inr o => Q o
theorem Runs.loop {step : σ → Option (σ ⊕ β)} {s : σ} {Q : β → Prop} (I : σ → Prop) (m : σ → Nat) (h0 : I s) (h : ∀ s, I s → Runs (step s) (Rnd I m Q s)) : Runs (Gw.loop step s) Q := by
  generalize hk : m s = k
  induction k using Nat.strongRecOn generalizing s with
  | _ k ih =>
    obtain ⟨x, hx, hq⟩ := h s h0
    cases x with
    | inl s' =>
      rw [Qgz hx]
      exact ih (m s') (by have := hq.2; omega) hq.1 rfl
    | inr o => rw [Qcd hx]; exact ⟨o, rfl, hq⟩
theorem ZN {step : σ → Option (σ ⊕ β)} {o : β} (S : Nat → σ) (n : Nat) (h : ∀ k, k < n → step (S k) = .some (.inl (S (k + 1)))) (he : step (S n) = .some (.inr o)) : Gw.loop step (S 0) = .some o := by
  have key : ∀ j k, j + k = n → Gw.loop step (S k) = .some o := by
    intro j
    induction j with
    | zero => intro k hk; obtain rfl : k = n := by omega
              exact Qcd he
    | succ j ih => intro k hk; rw [Qgz (h k (by omega))]; exact ih (k + 1) (by omega)
  exact key n 0 (by omega)

theorem Runs.idx {xs : List β} {i : Int} {f : β → Option α} (h0 : 0 ≤ i) (h1 : i < xs.length) (h : ∀ x, xs[i.toNat]? = .some x → Runs (f x) Q) : Runs ((Gw.idx xs i).bind f) Q := by
  have hl : i.toNat < xs.length := by omega
  have e : Gw.idx xs i = .some xs[i.toNat] := by unfold Gw.idx; rw [if_pos h0, List.getElem?_eq_getElem hl]
  exact Runs.call e (h _ (List.getElem?_eq_getElem hl))
theorem XD {xs : List β} {k : Nat} (h : k < xs.length) : Gw.idx xs (k : Int) = .some xs[k] := by
  unfold Gw.idx; rw [if_pos (by omega), Int.toNat_natCast, List.getElem?_eq_getElem h]
theorem XD? {xs : List β} {k : Nat} : Gw.idx xs (k : Int) = xs[k]? := by
  unfold Gw.idx; rw [if_pos (by omega), Int.toNat_natCast]
theorem ZH {xs ys : List β} (h : xs.length + ys.length ≤ 1073741824) : app xs ys = .some (xs ++ ys) := by unfold app; rw [if_pos h]
end
end Go.Gw

end
section
set_option linter.unusedSectionVars false
namespace Go.Gw
section
variable {α β γ σ ρ : Type}
def XS (p : α → Bool) (res : Nat → α → ρ) : Nat → List α → ρ ⊕ Unit
  | _, [] => .inr ()
  | k, x :: xs => if p x then .inl (res k x) else XS p res (k + 1) xs
theorem ZO {step : Int → Option (Int ⊕ (ρ ⊕ Unit))} (xs : List α) (p : α → Bool) (res : Nat → α → ρ)
    (hs : ∀ k (hk : k < xs.length), step (k : Int) = (bif p xs[k] then some (.inr (.inl (res k xs[k]))) else some (.inl ((k + 1 : Nat) : Int))))
    (he : step (xs.length : Int) = some (.inr (.inr ()))) : loop step 0 = some (XS p res 0 xs) := by
  have key : ∀ j k, j + k = xs.length → loop step (k : Int) = some (XS p res k (xs.drop k)) := by
    intro j
    induction j with
    | zero =>
      intro k hk
      obtain rfl : k = xs.length := by omega
      rw [List.drop_length]
      exact Qcd he
    | succ j ih =>
      intro k hk
      have hlt : k < xs.length := by omega
      rw [List.drop_eq_getElem_cons hlt]
      have := hs k hlt
      cases hp : p xs[k] with
      | true => rw [hp] at this; simp only [XS, hp, if_true]; exact Qcd this
      | false => rw [hp] at this; simp only [XS, hp]; rw [Qgz this]; exact ih (k + 1) (by omega)
  have := key xs.length 0 (by omega)
  simpa using this

def fld (f : Nat → γ → α → γ) : Nat → γ → List α → γ
  | _, a, [] => a
  | k, a, x :: xs => fld f (k + 1) (f k a x) xs
def rng (f : Nat → γ → γ) (a : γ) : Nat → γ
  | 0 => a
  | n + 1 => f n (rng f a n)
theorem XY (k : Nat) (h : k < 4611686018427387904) : w64 ((k : Int) + 1) = ((k + 1 : Nat) : Int) := by rw [Ya (by omega)]; omega
theorem XW {k n : Nat} (h : k < n) : decide ((k : Int) < (n : Int)) = true := by simp; omega
theorem XX (n : Nat) : decide ((n : Int) < (n : Int)) = false := by simp
end
end Go.Gw

end
section
set_option maxRecDepth 4096
namespace Go.Gw
open Go

def Zj : List Int → Int
  | [] => 0
  | x :: xs => if x = 0 then Zj xs else x
theorem JW (l : List Int) (hl : l.length < 1073741824) : Y5 l = some (Zj l) := by
  unfold Y5
  rw [ZO l (fun x => !decide (x = 0)) (fun _ x => x)]
  · have key : ∀ (l : List Int) k, (jn0 (XS (fun x => !decide (x = 0)) (fun _ x => x) k l) fun (_ : Unit) => some 0) = some (Zj l) := by
      intro l
      induction l with
      | nil => intro k; rfl
      | cons x xs ih =>
        intro k
        by_cases h : x = 0
        · simp [XS, Zj, h]; exact ih _
        · simp [XS, Zj, h, jn0]
    simpa using key l 0
  · intro k hk
    unfold Qgi
    rw [XW hk, XD hk, XY k (by omega)]; rfl
  · unfold Qgi
    rw [XX]; rfl
theorem Jf (b : Bool) (e : Int) : X3 b e = some (bif b then 0 else e) := by cases b <;> rfl
theorem Qal (n lo hi : Int) : Zq n lo hi = some (decide (lo ≤ n) && decide (n ≤ hi)) := rfl
theorem Qat (n lo hi : Int) : ZJ n lo hi = some (decide (lo ≤ n) && decide (n ≤ hi)) := rfl
theorem QNl (n m : Int) (h : 0 ≤ m) (h2 : m ≤ 9223372036854775807) : Qbx n m = some (decide (-m ≤ n) && decide (n ≤ m)) := by
  unfold Qbx
  rw [Ya (by omega), Qal, Int.zero_sub]; rfl
theorem Qip {α : Type} (p : α → Bool) : ∀ (l : List α) (k : Nat), (jn0 (β := Int) (XS p (fun k _ => (k : Int)) k l) fun (_ : Unit) => some (-1)) = some (match XS p (fun k _ => (k : Int)) k l with | .inl i => i | .inr _ => -1)
  | l, k => by cases XS p (fun k _ => (k : Int)) k l <;> rfl
theorem Qnu {α : Type} (p : α → Bool) : ∀ (l : List α) (k : Nat), decide (0 ≤ (match XS p (fun k _ => (k : Int)) k l with | .inl i => i | .inr _ => (-1 : Int))) = l.any p
  | [], k => by simp [XS]
  | x :: xs, k => by
    by_cases h : p x = true
    · simp [XS, h]
    · simp only [XS, h, List.any_cons]
      have := Qnu p xs (k + 1)
      simpa [h] using this
theorem Qaj {α ρ : Type} {p : α → Bool} {res : Nat → α → ρ} : ∀ (l : List α) (k : Nat), (XS p res k l = .inr () ∧ l.any p = false) ∨ ∃ j x, XS p res k l = .inl (res j x) ∧ p x = true ∧ l.any p = true
  | [], k => .inl ⟨rfl, rfl⟩
  | x :: xs, k => by
    by_cases h : p x = true
    · exact .inr ⟨k, x, by simp [XS, h], h, by simp [h]⟩
    · rcases Qaj xs (k + 1) (p := p) (res := res) with ⟨h1, h2⟩ | ⟨j, y, h1, h2, h3⟩
      · exact .inl ⟨by simp [XS, h, h1], by simp [h, h2]⟩
      · exact .inr ⟨j, y, by simp [XS, h, h1], h2, by simp [h3]⟩
/-! ### Ladders -/
def QGj (l : FeedLadder) : Bool := (l.Ohms.any fun n => !(decide (1 ≤ n) && decide (n ≤ 500))) || (l.Loads.any fun n => !(decide (-20000 ≤ n) && decide (n ≤ 20000)))
def QQh (l : FeedLadder) : Int := if ¬ (0 < l.Loads.length ∧ l.Ohms.length = l.Loads.length + 1) then 10 else if 8 < l.Loads.length then 8 else if QGj l then 2 else 0
end Go.Gw

end
section
set_option maxRecDepth 4096
namespace Go.Gw
open Go
def X0 (f : Nat → Int) (n : Nat) : Option Nat := (List.range n).find? fun i => decide (f i ≠ 0)
theorem Qac (f : Nat → Int) (n : Nat) : (X0 f n = none ∧ ∀ j, j < n → f j = 0) ∨ ∃ i, X0 f n = some i ∧ i < n ∧ f i ≠ 0 ∧ ∀ j, j < i → f j = 0 := by
  cases h : X0 f n with
  | none =>
    refine .inl ⟨rfl, fun j hj => ?_⟩
    have := List.find?_eq_none.1 h j (List.mem_range.2 hj)
    simpa using this
  | some i =>
    right
    obtain ⟨h1, h2, h3⟩ := List.find?_range_eq_some.1 h
    exact ⟨i, rfl, List.mem_range.1 h2, by simpa using h1, fun j hj => by have := h3 j hj; simpa using this⟩
theorem JC {σ ρ μ : Type} {step : σ → Option (σ ⊕ (ρ ⊕ μ))} (S : Nat → σ) (n : Nat) (f : Nat → Int) (res : Nat → Int → ρ) (o : μ)
    (hs : ∀ k, k < n → (∀ j, j < k → f j = 0) → step (S k) = if f k = 0 then some (.inl (S (k + 1))) else some (.inr (.inl (res k (f k))))) (he : (∀ j, j < n → f j = 0) → step (S n) = some (.inr (.inr o))) :
    loop step (S 0) = some (match X0 f n with | some i => .inl (res i (f i)) | none => .inr o) := by
  rcases Qac f n with ⟨h1, h2⟩ | ⟨i, h1, h2, h3, h4⟩
  · rw [h1]
    exact ZN S n (fun k hk => by rw [hs k hk fun j hj => h2 j (by omega), if_pos (h2 k hk)]) (he h2)
  · rw [h1]
    exact ZN S i (fun k hk => by rw [hs k (by omega) fun j hj => h4 j (by omega), if_pos (h4 k hk)]) (by rw [hs i h2 h4, if_neg h3])
/-! ### Names -/
def Qcw (q : Int × Nat) : Bool := (!(((decide (97 ≤ q.1)) && (decide (q.1 ≤ 122))) || ((decide (65 ≤ q.1)) && (decide (q.1 ≤ 90))))) && ((decide ((q.2 : Int) = 0)) || ((!decide (q.1 = 45)) && ((decide (q.1 < 48)) || (decide (57 < q.1)))))
def bi (s : ByteArray) : List Int := bl s
theorem Qfq (s : ByteArray) : (bi s).length = s.size := J9 s
theorem Qtl {s : ByteArray} {k : Nat} (h : k < (bi s).length) : idx (α := Int) (bl s) (k : Int) = some (bi s)[k] := XD (xs := bi s) h
def Qah (s : ByteArray) : Bool := decide (1 ≤ s.size) && (decide (s.size ≤ 12) && !((bi s).zipIdx.any Qcw))
theorem Qwm (s : ByteArray) : s = ByteArray.mk #[] ↔ s.size = 0 := by
  constructor
  · intro h; subst h; rfl
  · intro h
    cases s with
    | mk d =>
      congr 1
      exact Array.eq_empty_of_size_eq_zero h
theorem Qop (s : ByteArray) : Qcx s = some (Qah s) := by
  unfold Qcx Qah
  have hlen : (bi s).zipIdx.length = s.size := by rw [List.length_zipIdx, Qfq]
  by_cases h : 1 ≤ s.size ∧ s.size ≤ 12
  · have : (decide ((s.size : Int) < 1) || decide (12 < (s.size : Int))) = false := by
      rw [decide_eq_false (by omega), decide_eq_false (by omega)]; rfl
    rw [this, cond_false, ZO (bi s).zipIdx Qcw (fun _ _ => false), Qz]
    · rcases Qaj (p := Qcw) (res := fun _ _ => false) (bi s).zipIdx 0 with ⟨k1, k2⟩ | ⟨j, x, k1, k2, k3⟩
      · rw [k1, k2]; simp [h, jn0]
      · rw [k1, k3]; simp [jn0]
    · intro k hk
      rw [hlen] at hk
      unfold Qjt
      rw [XW hk, cond_true, Qtl (show k < (bi s).length by rw [Qfq]; exact hk), Qz, XY k (by omega)]
      simp only [List.getElem_zipIdx, Nat.zero_add]
      rfl
    · rw [hlen]
      unfold Qjt
      rw [XX]; rfl
  · have : (decide ((s.size : Int) < 1) || decide (12 < (s.size : Int))) = true := by
      by_cases h1 : s.size < 1
      · rw [decide_eq_true (by omega)]; rfl
      · rw [decide_eq_true (p := 12 < (s.size : Int)) (by omega)]; simp
    rw [this, cond_true]
    congr 1
    by_cases h1 : 1 ≤ s.size
    · rw [decide_eq_false (p := s.size ≤ 12) (by omega)]; simp
    · rw [decide_eq_false h1]; rfl
theorem QBl (s : ByteArray) (hs : s.size ≤ 1000) : Qdj s = some (Qah s) := by
  unfold Qdj Qah
  have hlen : (bi s).zipIdx.length = s.size := by rw [List.length_zipIdx, Qfq]
  have ht : tob s = some (bl s) := by unfold tob; rw [if_pos (by omega)]
  rw [ht, Qz, ZO (bi s).zipIdx Qcw (fun _ _ => false), Qz]
  · rcases Qaj (p := Qcw) (res := fun _ _ => false) (bi s).zipIdx 0 with ⟨k1, k2⟩ | ⟨j, x, k1, k2, k3⟩
    · rw [k1, k2]
      simp only [jn0, Bool.not_false, Bool.and_true, Option.some.injEq]
      by_cases h0 : s.size = 0
      · rw [decide_eq_true ((Qwm s).2 h0), decide_eq_false (show ¬ 1 ≤ s.size by omega)]; rfl
      · rw [decide_eq_false (fun e => h0 ((Qwm s).1 e)), decide_eq_true (show 1 ≤ s.size by omega)]
        simp only [Bool.not_false, Bool.true_and]
        by_cases h1 : s.size ≤ 12
        · rw [decide_eq_true h1, decide_eq_true (by omega)]
        · rw [decide_eq_false h1, decide_eq_false (by omega)]
    · rw [k1, k3]; simp [jn0]
  · intro k hk
    rw [hlen] at hk
    have hk2 : k < (bl s).length := by rw [J9]; exact hk
    unfold Qgk
    rw [XW hk2, cond_true, Qtl (show k < (bi s).length by rw [Qfq]; exact hk), Qz, XY k (by omega)]
    simp only [List.getElem_zipIdx, Nat.zero_add]
    rfl
  · rw [hlen, show (s.size : Int) = ((bl s).length : Int) by rw [J9]]
    unfold Qgk
    rw [XX]; rfl
theorem QAm (l : List ByteArray) (v : ByteArray) (hl : l.length < 1000000) : Qes l v = some (l.any fun x => decide (v = x)) := by
  unfold Qes Qio
  rw [ZO l (fun x => decide (v = x)) (fun k _ => (k : Int)), Qz, Qip, Qz, Qnu]
  · intro k hk
    unfold Qin
    rw [XW hk, XD hk, XY k (by omega)]; rfl
  · unfold Qin
    rw [XX]; rfl
def JE (s : ByteArray) (others : List ByteArray) : Int := if Qah s = false then 4 else if (others.any fun x => decide (s = x)) = true then 5 else 0
theorem Qub (s : ByteArray) (others : List ByteArray) (hs : s.size ≤ 1000) (hl : others.length < 1000000) : Qbo s others = some (JE s others) := by
  unfold Qbo JE
  rw [QBl s hs, Qz, Jf, Qz, QAm _ _ hl, Qz, Jf, Qz, JW _ (by simp), Qz]
  cases Qah s <;> cases (others.any fun x => decide (s = x)) <;> simp [Zj]
end Go.Gw

end
section
set_option maxRecDepth 4096
namespace Go.Gw
open Go
theorem Qfr {α : Type} {c : Bool} {a b : α} : (bif c then some a else some b) = some (bif c then a else b) := by cases c <;> rfl
def Qwk (l r il ir eq sh lo s0 s1 : Bool) : Int := bif (!(l || il)) || !(r || ir) then 6 else bif l && r then 23 else bif eq then 26 else bif !(sh && lo) then 2 else bif (l && !s0) || (r && !s1) then 3 else 0
def ZV (s : FeedSection) (n : Nat) : Int := Qwk (decide (s.Left = -1)) (decide (s.Right = -1)) (decide (0 ≤ s.Left) && decide (s.Left ≤ (n : Int) - 1)) (decide (0 ≤ s.Right) && decide (s.Right ≤ (n : Int) - 1)) (decide (s.Left = s.Right))
  (decide (0 ≤ s.Share) && decide (s.Share ≤ 1000)) (decide (0 ≤ s.Loss) && decide (s.Loss ≤ 500)) (decide (s.Share = 0)) (decide (s.Share = 1000))
theorem QBo (s : FeedSection) (n : Nat) (hn : n < 1000) : Qds s (n : Int) = some (ZV s n) := by
  unfold Qds Qdr ZV
  rw [Ya (by omega)]
  simp only [Jf, Qal, Qz, Qfr]
  rw [JW _ (by simp), Qz]
  congr 1
  generalize decide (s.Left = -1) = l
  generalize decide (s.Right = -1) = r
  generalize (decide (0 ≤ s.Left) && decide (s.Left ≤ (n : Int) - 1)) = il
  generalize (decide (0 ≤ s.Right) && decide (s.Right ≤ (n : Int) - 1)) = ir
  generalize decide (s.Left = s.Right) = eq
  generalize (decide (0 ≤ s.Share) && decide (s.Share ≤ 1000)) = sh
  generalize (decide (0 ≤ s.Loss) && decide (s.Loss ≤ 500)) = lo
  generalize decide (s.Share = 0) = s0
  generalize decide (s.Share = 1000) = s1
  revert l r il ir eq sh lo s0 s1
  decide +kernel
theorem QKn (m : FeedNet) (s : FeedSection) (hn : m.Stations.length < 1000) : Qhz m s = some (ZV s m.Stations.length) := by
  unfold Qhz Qhx ZV
  rw [Ya (by omega)]
  simp only [Qat, Qz, Qfr]
  congr 1
  generalize decide (s.Left = -1) = l
  generalize decide (s.Right = -1) = r
  generalize (decide (0 ≤ s.Left) && decide (s.Left ≤ (m.Stations.length : Int) - 1)) = il
  generalize (decide (0 ≤ s.Right) && decide (s.Right ≤ (m.Stations.length : Int) - 1)) = ir
  generalize decide (s.Left = s.Right) = eq
  generalize (decide (0 ≤ s.Share) && decide (s.Share ≤ 1000)) = sh
  generalize (decide (0 ≤ s.Loss) && decide (s.Loss ≤ 500)) = lo
  generalize decide (s.Share = 0) = s0
  generalize decide (s.Share = 1000) = s1
  revert l r il ir eq sh lo s0 s1
  decide +kernel
def ZW (s : FeedStep) (n : Nat) : Int := bif !(decide (0 ≤ s.Section) && decide (s.Section ≤ (n : Int) - 1)) then 6 else bif !(decide (-20000 ≤ s.Power) && decide (s.Power ≤ 20000)) then 2 else 0
def Qiq (l : List FeedStep) (n : Nat) : Int := match X0 (fun i => (l[i]?.map (ZW · n)).getD 0) l.length with | some i => (l[i]?.map (ZW · n)).getD 0 | none => 0
def Qyi (e1 e2 : Bool) (o : Bool) (z : Bool) (m : Bool) (st : Int) : Int := bif !(e1 && e2) then 2 else bif !o then 9 else bif !z then 10 else bif !m then 8 else st
def JN (t : FeedTrain) (n : Nat) : Int := Qyi (decide (0 ≤ t.Earliest) && decide (t.Earliest ≤ 1000)) (decide (0 ≤ t.Latest) && decide (t.Latest ≤ 1000)) (decide (t.Earliest ≤ t.Latest)) (decide (0 < (t.Steps.length : Int))) (decide ((t.Steps.length : Int) ≤ 12)) (Qiq t.Steps n)
theorem Qmd (l : List FeedStep) (n k : Nat) (hk : k < l.length) : (l[k]?.map (ZW · n)).getD 0 = ZW l[k] n := by rw [List.getElem?_eq_getElem hk]; rfl
theorem QBr (t : FeedTrain) (n : Nat) (hn : n < 1000) (ht : t.Steps.length < 1000) : Qdv t (n : Int) = some (JN t n) := by
  have key : loop (Qdu (n : Int) t) 0 = some (match X0 (fun i => (t.Steps[i]?.map (ZW · n)).getD 0) t.Steps.length with | some i => .inl ((t.Steps[i]?.map (ZW · n)).getD 0) | none => .inr ()) :=
    JC (fun k => (k : Int)) t.Steps.length _ (fun _ e => e) () (fun k hk _ => by
      rw [Qmd _ _ _ hk]
      unfold Qdu ZW
      rw [XW hk, cond_true, XD hk, Qz, XY k (by omega), Ya (by omega)]
      simp only [Jf, Qal, Qz]
      rw [QNl _ _ (by omega) (by omega)]
      simp only [Jf, Qz]
      rw [JW _ (by simp), Qz]
      generalize (decide (0 ≤ t.Steps[k].Section) && decide (t.Steps[k].Section ≤ (n : Int) - 1)) = a
      generalize (decide (-20000 ≤ t.Steps[k].Power) && decide (t.Steps[k].Power ≤ 20000)) = b
      cases a <;> cases b <;> rfl) (fun _ => by
      unfold Qdu
      rw [XX]; rfl)
  unfold Qdv Qav
  rw [key]
  unfold JN Qiq
  simp only [Jf, Qal, Qz, Qfr]
  rw [JW _ (by simp), Qz]
  generalize (decide (0 ≤ t.Earliest) && decide (t.Earliest ≤ 1000)) = e1
  generalize (decide (0 ≤ t.Latest) && decide (t.Latest ≤ 1000)) = e2
  generalize decide (t.Earliest ≤ t.Latest) = o
  generalize decide (0 < (t.Steps.length : Int)) = z
  generalize decide ((t.Steps.length : Int) ≤ 12) = m
  cases X0 (fun i => (t.Steps[i]?.map (ZW · n)).getD 0) t.Steps.length with
  | none => cases e1 <;> cases e2 <;> cases o <;> cases z <;> cases m <;> rfl
  | some i => cases e1 <;> cases e2 <;> cases o <;> cases z <;> cases m <;> rfl
theorem QKq (m : FeedNet) (t : FeedTrain) (hn : m.Sections.length < 1000) (ht : t.Steps.length < 1000) : Qid m t = some (JN t m.Sections.length) := by
  have key : loop (Qic m t) 0 = some (match X0 (fun i => (t.Steps[i]?.map (ZW · m.Sections.length)).getD 0) t.Steps.length with | some i => .inl ((t.Steps[i]?.map (ZW · m.Sections.length)).getD 0) | none => .inr ()) :=
    JC (fun k => (k : Int)) t.Steps.length _ (fun _ e => e) () (fun k hk _ => by
      rw [Qmd _ _ _ hk]
      unfold Qic Qnd ZW
      rw [XW hk, cond_true, XD hk, Qz, XY k (by omega), Ya (by omega)]
      simp only [Qat, Qz]
      generalize (decide (0 ≤ t.Steps[k].Section) && decide (t.Steps[k].Section ≤ (m.Sections.length : Int) - 1)) = a
      generalize (decide (-20000 ≤ t.Steps[k].Power) && decide (t.Steps[k].Power ≤ 20000)) = b
      cases a <;> cases b <;> rfl) (fun _ => by
      unfold Qic
      rw [XX]; rfl)
  unfold Qid
  rw [key]
  unfold JN Qiq
  simp only [Qat, Qz, Qfr]
  rw [show decide (t.Latest < t.Earliest) = !decide (t.Earliest ≤ t.Latest) by rw [← decide_not]; congr 1; exact propext (by omega),
    show decide ((t.Steps.length : Int) = 0) = !decide (0 < (t.Steps.length : Int)) by rw [← decide_not]; congr 1; exact propext (by omega),
    show decide (12 < (t.Steps.length : Int)) = !decide ((t.Steps.length : Int) ≤ 12) by rw [← decide_not]; congr 1; exact propext (by omega)]
  generalize (decide (0 ≤ t.Earliest) && decide (t.Earliest ≤ 1000)) = e1
  generalize (decide (0 ≤ t.Latest) && decide (t.Latest ≤ 1000)) = e2
  generalize decide (t.Earliest ≤ t.Latest) = o
  generalize decide (0 < (t.Steps.length : Int)) = z
  generalize decide ((t.Steps.length : Int) ≤ 12) = q
  cases X0 (fun i => (t.Steps[i]?.map (ZW · m.Sections.length)).getD 0) t.Steps.length with
  | none => cases e1 <;> cases e2 <;> cases o <;> cases z <;> cases q <;> rfl
  | some i => cases e1 <;> cases e2 <;> cases o <;> cases z <;> cases q <;> rfl
end Go.Gw

end
section
set_option maxRecDepth 4096
namespace Go.Gw
open Go
def stE (s : FeedStation) (others : List ByteArray) : Int := if JE s.Name others ≠ 0 then JE s.Name others else bif !(decide (0 ≤ s.Limit) && decide (s.Limit ≤ 100000)) then 2 else 0
def Zw (n : FeedNet) (i : Nat) : Int := (n.Stations[i]?.map fun s => stE s ((n.Stations.take i).map (·.Name))).getD 0
def Zv (n : FeedNet) (i : Nat) : Int := (n.Sections[i]?.map fun s => ZV s n.Stations.length).getD 0
def trE (t : FeedTrain) (others : List ByteArray) (n : Nat) : Int := if JE t.Name others ≠ 0 then JE t.Name others else JN t n
def Zz (n : FeedNet) (i : Nat) : Int := (n.Trains[i]?.map fun t => trE t ((n.Trains.take i).map (·.Name)) n.Sections.length).getD 0
def ZQ (n : FeedNet) : FeedMark × Int :=
  if n.Stations.length = 0 ∨ n.Sections.length = 0 then (FeedMark.mk 0 0, 10) else if 6 < n.Stations.length ∨ 10 < n.Sections.length ∨ 6 < n.Trains.length then (FeedMark.mk 0 0, 8) else
  match X0 (Zw n) n.Stations.length with
  | some i => (FeedMark.mk 1 i, Zw n i)
  | none => match X0 (Zv n) n.Sections.length with
    | some i => (FeedMark.mk 2 i, Zv n i)
    | none => match X0 (Zz n) n.Trains.length with
      | some i => (FeedMark.mk 3 i, Zz n i)
      | none => (FeedMark.mk 0 0, 0)
structure NetS (n : FeedNet) : Prop where
  st : n.Stations.length < 1000
  se : n.Sections.length < 1000
  tr : n.Trains.length < 1000
  sn : ∀ s ∈ n.Stations, s.Name.size ≤ 1000
  tn : ∀ t ∈ n.Trains, t.Name.size ≤ 1000 ∧ t.Steps.length < 1000
theorem Z9 {α : Type} (l : List α) (f : α → Int) (k : Nat) (hk : k < l.length) : (l[k]?.map f).getD 0 = f l[k] := by rw [List.getElem?_eq_getElem hk]; rfl
theorem Qir {α β : Type} (l : List α) (f : α → β) (k : Nat) (hk : k < l.length) : (l.take k).map f ++ [f l[k]] = (l.take (k + 1)).map f := by
  rw [List.take_add_one, List.getElem?_eq_getElem hk, List.map_append]; rfl
theorem Qmb (a b : Int) : Zj [a, b] = if a ≠ 0 then a else b := by
  by_cases h : a = 0
  · by_cases h2 : b = 0 <;> simp [Zj, h, h2]
  · simp [Zj, h]
section
variable {n : FeedNet} (h : NetS n)
include h
theorem QBq : loop (Qdf n) (([] : List ByteArray), 0) = some (match X0 (Zw n) n.Stations.length with | some i => .inl (FeedMark.mk 1 i, Zw n i) | none => .inr ()) :=
  JC (fun k => ((n.Stations.take k).map (·.Name), (k : Int))) n.Stations.length (Zw n) (fun i e => (FeedMark.mk 1 i, e)) () (fun k hk _ => by
    have hst := h.st
    have hs : Zw n k = stE n.Stations[k] ((n.Stations.take k).map (·.Name)) := Z9 _ _ _ hk
    rw [hs]
    unfold Qdf stE
    simp only [XW hk, cond_true, XD hk, Qz]
    rw [Qub _ _ (h.sn _ (List.getElem_mem hk)) (by simp; omega), Qz]
    simp only [Qal, Jf, Qz]
    rw [JW _ (by simp), Qz, Qmb]
    generalize (decide (0 ≤ n.Stations[k].Limit) && decide (n.Stations[k].Limit ≤ 100000)) = b
    by_cases h1 : JE n.Stations[k].Name ((n.Stations.take k).map (·.Name)) = 0
    · simp only [h1, ne_eq, not_true_eq_false, if_false]
      cases b
      · rfl
      · simp only [cond_true, decide_true, Bool.not_true, cond_false, if_true]
        rw [ZH (by simp; omega), Qz, Qir n.Stations (·.Name) k hk, XY k (by omega)]
    · simp only [ne_eq, h1, not_false_eq_true, if_true, decide_false, Bool.not_false, cond_true, if_false]) (fun _ => by
    unfold Qdf
    simp only [XX]; rfl)
theorem QBp : loop (Qdg n) 0 = some (match X0 (Zv n) n.Sections.length with | some i => .inl (FeedMark.mk 2 i, Zv n i) | none => .inr ()) :=
  JC (fun k => (k : Int)) n.Sections.length (Zv n) (fun i e => (FeedMark.mk 2 i, e)) () (fun k hk _ => by
    have hse := h.se
    have hs : Zv n k = ZV n.Sections[k] n.Stations.length := Z9 _ _ _ hk
    rw [hs]
    unfold Qdg
    rw [XW hk, cond_true, XD hk, Qz, QBo _ _ h.st, Qz, XY k (by omega)]
    by_cases h1 : ZV n.Sections[k] n.Stations.length = 0
    · simp [h1]
    · simp [h1]) (fun _ => by
    unfold Qdg
    rw [XX]; rfl)
theorem QBt : loop (Qdh n) (([] : List ByteArray), 0) = some (match X0 (Zz n) n.Trains.length with | some i => .inl (FeedMark.mk 3 i, Zz n i) | none => .inr ()) :=
  JC (fun k => ((n.Trains.take k).map (·.Name), (k : Int))) n.Trains.length (Zz n) (fun i e => (FeedMark.mk 3 i, e)) () (fun k hk _ => by
    have hst := h.tr
    have hs : Zz n k = trE n.Trains[k] ((n.Trains.take k).map (·.Name)) n.Sections.length := Z9 _ _ _ hk
    rw [hs]
    unfold Qdh trE
    simp only [XW hk, cond_true, XD hk, Qz]
    rw [Qub _ _ (h.tn _ (List.getElem_mem hk)).1 (by simp; omega), Qz, QBr _ _ h.se (h.tn _ (List.getElem_mem hk)).2, Qz]
    rw [JW _ (by simp), Qz, Qmb]
    by_cases h1 : JE n.Trains[k].Name ((n.Trains.take k).map (·.Name)) = 0
    · simp only [h1, ne_eq, not_true_eq_false, if_false]
      by_cases h2 : JN n.Trains[k] n.Sections.length = 0
      · simp only [h2, decide_true, Bool.not_true, cond_false, if_true]
        rw [ZH (by simp; omega), Qz, Qir n.Trains (·.Name) k hk, XY k (by omega)]
      · simp [h2]
    · simp only [ne_eq, h1, not_false_eq_true, if_true, decide_false, Bool.not_false, cond_true, if_false]) (fun _ => by
    unfold Qdh
    simp only [XX]; rfl)
theorem QBi : Qdi n = some (ZQ n) := by
  unfold Qdi ZQ
  rw [QBq h, QBp h, QBt h]
  simp only [Jf, Qz]
  rw [JW _ (by simp), Qz, Qmb]
  by_cases h1 : n.Stations.length = 0 ∨ n.Sections.length = 0
  · rw [if_pos h1]
    have : (decide (0 < (n.Stations.length : Int)) && decide (0 < (n.Sections.length : Int))) = false := by
      rw [Bool.eq_false_iff]; intro e; simp at e; omega
    rw [this]; rfl
  · rw [if_neg h1]
    have : (decide (0 < (n.Stations.length : Int)) && decide (0 < (n.Sections.length : Int))) = true := by
      simp; omega
    rw [this]
    by_cases h2 : 6 < n.Stations.length ∨ 10 < n.Sections.length ∨ 6 < n.Trains.length
    · rw [if_pos h2]
      have : ((decide ((n.Stations.length : Int) ≤ 6) && decide ((n.Sections.length : Int) ≤ 10)) && decide ((n.Trains.length : Int) ≤ 6)) = false := by
        rw [Bool.eq_false_iff]; intro e; simp at e; omega
      rw [this]; rfl
    · rw [if_neg h2]
      have : ((decide ((n.Stations.length : Int) ≤ 6) && decide ((n.Sections.length : Int) ≤ 10)) && decide ((n.Trains.length : Int) ≤ 6)) = true := by
        simp; omega
      rw [this]
      cases X0 (Zw n) n.Stations.length with
      | some i => rfl
      | none =>
        cases X0 (Zv n) n.Sections.length with
        | some i => rfl
        | none =>
          cases X0 (Zz n) n.Trains.length with
          | some i => rfl
          | none => rfl
end
end Go.Gw

end
section
set_option maxRecDepth 4096
namespace Go.Gw
open Go
theorem Qxq {α : Type} {p : α → Bool} : ∀ (l : List α) (k m : Nat) (hk : k < l.length), p l[k] = true → ∃ j : Nat, XS p (fun k _ => (k : Int)) m l = .inl ((m + j : Nat) : Int) ∧ (j < k ↔ (l.take k).any p = true)
  | x :: xs, 0, m, _, hp => ⟨0, by simp at hp; simp [XS, hp], by simp⟩
  | x :: xs, k + 1, m, hk, hp => by
    by_cases hx : p x = true
    · exact ⟨0, by simp [XS, hx], by simp [hx]⟩
    · obtain ⟨j, h1, h2⟩ := Qxq xs k (m + 1) (by simpa using hk) (by simpa using hp)
      refine ⟨j + 1, by simp only [XS, hx]; rw [← show m + 1 + j = m + (j + 1) by omega]; simpa using h1, ?_⟩
      simp only [List.take_succ_cons, List.any_cons, hx]
      rw [← (show ((l : Bool) → (false || l) = l) from fun l => by cases l <;> rfl) ((xs.take k).any p)] at h2
      constructor
      · intro h; simpa using h2.1 (by omega)
      · intro h; have := h2.2 (by simpa using h); omega
theorem Qon {α : Type} (f : α → ByteArray) (l : List α) (s : ByteArray) : ((l.map f).any fun x => decide (s = x)) = l.any fun y => decide (f y = s) := by
  rw [List.any_map]
  congr 1
  funext y
  exact decide_eq_decide.2 eq_comm
def Yf (n : FeedNet) (s : ByteArray) : Int := match XS (fun t : FeedTrain => decide (t.Name = s)) (fun k _ => (k : Int)) 0 n.Trains with | .inl i => i | .inr _ => -1
theorem Qhh (n : FeedNet) (s : ByteArray) (h : n.Trains.length < 1000000) : Qbb n s = some (Yf n s) := by
  unfold Qbb Yf
  rw [ZO n.Trains (fun t => decide (t.Name = s)) (fun k _ => (k : Int)), Qz, Qip]
  all_goals first
    | (intro k hk; unfold Qnb; rw [XW hk, cond_true, XD hk, Qz, XY k (by omega)])
    | (unfold Qnb; rw [XX]; rfl)
    | rfl
section
variable {n : FeedNet} (h : NetS n)
include h
theorem QKp : loop (Qhn n) 0 = some (match X0 (Zw n) n.Stations.length with | some i => .inl (FeedMark.mk 1 i, Zw n i) | none => .inr ()) :=
  JC (fun k => (k : Int)) n.Stations.length (Zw n) (fun i e => (FeedMark.mk 1 i, e)) () (fun k hk _ => by
    have hst := h.st
    have hs : Zw n k = stE n.Stations[k] ((n.Stations.take k).map (·.Name)) := Z9 _ _ _ hk
    have hlen : (n.Stations.take k).length = k := by simp; omega
    have inner : loop (Qhm n (k : Int)) 0 = some (XS (fun y : FeedStation => decide (y.Name = n.Stations[k].Name)) (fun _ _ => Sum.inr (α := Int) (Sum.inl (β := Unit) (FeedMark.mk 1 (k : Int), (5 : Int)))) 0 (n.Stations.take k)) :=
      ZO (n.Stations.take k) _ _ (fun j hj => by
        rw [hlen] at hj
        unfold Qhm
        rw [XW hj, cond_true, XD (show j < n.Stations.length by omega), Qz, XD hk, Qz, XY j (by omega)]
        simp only [List.getElem_take]) (by
        rw [hlen]
        unfold Qhm
        rw [XX]; rfl)
    rw [hs]
    unfold Qhn stE JE
    rw [XW hk, cond_true, XD hk, Qz, Qop, Qz, inner, Qon]
    cases hn : Qah n.Stations[k].Name
    · rfl
    · simp only [Bool.not_true, cond_false, Qz]
      rcases Qaj (p := fun y : FeedStation => decide (y.Name = n.Stations[k].Name)) (res := fun _ _ => Sum.inr (α := Int) (Sum.inl (β := Unit) (FeedMark.mk 1 (k : Int), (5 : Int)))) (n.Stations.take k) 0 with ⟨k1, k2⟩ | ⟨j, x, k1, k2, k3⟩
      · rw [k1, k2]
        simp only [jn0, Qz, Qat, XY k (show k < 4611686018427387904 by omega)]
        generalize (decide (0 ≤ n.Stations[k].Limit) && decide (n.Stations[k].Limit ≤ 100000)) = b
        cases b <;> rfl
      · rw [k1, k3]; rfl) (fun _ => by
    unfold Qhn
    rw [XX]; rfl)
theorem QKo : loop (Qho n) 0 = some (match X0 (Zv n) n.Sections.length with | some i => .inl (FeedMark.mk 2 i, Zv n i) | none => .inr ()) :=
  JC (fun k => (k : Int)) n.Sections.length (Zv n) (fun i e => (FeedMark.mk 2 i, e)) () (fun k hk _ => by
    have hse := h.se
    have hs : Zv n k = ZV n.Sections[k] n.Stations.length := Z9 _ _ _ hk
    rw [hs]
    unfold Qho
    rw [XW hk, cond_true, XD hk, Qz, QKn _ _ h.st, Qz, XY k (by omega)]
    by_cases h1 : ZV n.Sections[k] n.Stations.length = 0
    · simp [h1]
    · simp [h1]) (fun _ => by
    unfold Qho
    rw [XX]; rfl)
theorem QKr : loop (Qhp n) 0 = some (match X0 (Zz n) n.Trains.length with | some i => .inl (FeedMark.mk 3 i, Zz n i) | none => .inr ()) :=
  JC (fun k => (k : Int)) n.Trains.length (Zz n) (fun i e => (FeedMark.mk 3 i, e)) () (fun k hk _ => by
    have hst := h.tr
    have hs : Zz n k = trE n.Trains[k] ((n.Trains.take k).map (·.Name)) n.Sections.length := Z9 _ _ _ hk
    obtain ⟨j, hj1, hj2⟩ := Qxq (p := fun t : FeedTrain => decide (t.Name = n.Trains[k].Name)) n.Trains k 0 hk (by simp)
    have ht : Yf n n.Trains[k].Name = (j : Int) := by unfold Yf; rw [hj1]; simp
    rw [hs]
    unfold Qhp trE JE
    rw [XW hk, cond_true, XD hk, Qz, Qop, Qz, Qon]
    cases hn : Qah n.Trains[k].Name
    · rfl
    · simp only [Bool.not_true, cond_false, Qz]
      rw [Qhh _ _ (by omega), ht, Qz, QKq _ _ h.se (h.tn _ (List.getElem_mem hk)).2, Qz, XY k (by omega)]
      cases ha : (n.Trains.take k).any (fun t => decide (t.Name = n.Trains[k].Name)) with
      | true =>
        rw [decide_eq_true (show (j : Int) < k by have := hj2.2 ha; omega)]; rfl
      | false =>
        rw [decide_eq_false (show ¬ (j : Int) < k by intro e; have := hj2.1 (by omega); rw [ha] at this; cases this)]
        by_cases h2 : JN n.Trains[k] n.Sections.length = 0
        · simp [h2]
        · simp [h2]) (fun _ => by
    unfold Qhp
    rw [XX]; rfl)
theorem QKe : Qhq n = some (ZQ n) := by
  unfold Qhq ZQ
  rw [QKp h, QKo h, QKr h]
  by_cases h1 : n.Stations.length = 0 ∨ n.Sections.length = 0
  · rw [if_pos h1]
    have : (decide ((n.Stations.length : Int) = 0) || decide ((n.Sections.length : Int) = 0)) = true := by
      simp only [Bool.or_eq_true, decide_eq_true_eq]; omega
    rw [this]; rfl
  · rw [if_neg h1]
    have : (decide ((n.Stations.length : Int) = 0) || decide ((n.Sections.length : Int) = 0)) = false := by
      rw [decide_eq_false (by omega), decide_eq_false (by omega)]; rfl
    rw [this, cond_false]
    by_cases h2 : 6 < n.Stations.length ∨ 10 < n.Sections.length ∨ 6 < n.Trains.length
    · rw [if_pos h2]
      have : ((decide (6 < (n.Stations.length : Int)) || decide (10 < (n.Sections.length : Int))) || decide (6 < (n.Trains.length : Int))) = true := by
        simp only [Bool.or_eq_true, decide_eq_true_eq]; omega
      rw [this]; rfl
    · rw [if_neg h2]
      have : ((decide (6 < (n.Stations.length : Int)) || decide (10 < (n.Sections.length : Int))) || decide (6 < (n.Trains.length : Int))) = false := by
        rw [decide_eq_false (by omega), decide_eq_false (by omega), decide_eq_false (by omega)]; rfl
      rw [this, cond_false]
      cases X0 (Zw n) n.Stations.length with
      | some i => rfl
      | none =>
        cases X0 (Zv n) n.Sections.length with
        | some i => rfl
        | none =>
          cases X0 (Zz n) n.Trains.length with
          | some i => rfl
          | none => rfl
end
end Go.Gw

end
section
set_option maxRecDepth 4096
namespace Go.Gw
open Go
theorem Qkf (l : List FeedDeparture) (h : l.length < 1000000) : Qai l = some l := by
  unfold Qai; rw [ZH (by simp; omega)]; rfl
theorem QAo {n : FeedNet} (h : NetS n) : Qeg n = some n := by
  have key : loop (Qhs n) (0, ([] : List FeedTrain)) = some n.Trains :=
    ZN (fun k => ((k : Int), n.Trains.take k)) n.Trains.length (fun k hk => by
      have hst := h.tr
      have hsteps := (h.tn _ (List.getElem_mem hk)).2
      unfold Qhs
      simp only [XW hk, cond_true, XD hk, Qz]
      rw [ZH (by simp; omega), Qz, ZH (by simp; omega), Qz, XY k (by omega), List.nil_append]
      congr 3
      rw [List.take_add_one, List.getElem?_eq_getElem hk]; rfl) (by
      unfold Qhs
      simp only [XX, cond_false, List.take_length])
  unfold Qeg
  have h1 := h.st
  have h2 := h.se
  rw [ZH (by simp; omega), ZH (by simp; omega), key]
  rfl
def Qdw (n : FeedNet) : Bool := !(decide (8 < n.Stations.length) || decide (12 < n.Sections.length) || decide (8 < n.Trains.length)) && !(n.Stations.any fun s => decide (20 < (s.Name.size : Int))) && !(n.Trains.any fun t => decide (20 < (t.Name.size : Int)) || decide (14 < (t.Steps.length : Int)))
theorem QFx (n : FeedNet) : Qgt n = some (Qdw n) := by
  unfold Qgt Qdw
  by_cases h : 8 < n.Stations.length ∨ 12 < n.Sections.length ∨ 8 < n.Trains.length
  · have e1 : ((decide (8 < (n.Stations.length : Int)) || decide (12 < (n.Sections.length : Int))) || decide (8 < (n.Trains.length : Int))) = true := by
      simp only [Bool.or_eq_true, decide_eq_true_eq]; omega
    have e2 : (decide (8 < n.Stations.length) || decide (12 < n.Sections.length) || decide (8 < n.Trains.length)) = true := by
      simp only [Bool.or_eq_true, decide_eq_true_eq]; omega
    rw [e1, e2]; rfl
  · have e1 : ((decide (8 < (n.Stations.length : Int)) || decide (12 < (n.Sections.length : Int))) || decide (8 < (n.Trains.length : Int))) = false := by
      rw [decide_eq_false (by omega), decide_eq_false (by omega), decide_eq_false (by omega)]; rfl
    have e2 : (decide (8 < n.Stations.length) || decide (12 < n.Sections.length) || decide (8 < n.Trains.length)) = false := by
      rw [decide_eq_false (by omega), decide_eq_false (by omega), decide_eq_false (by omega)]; rfl
    rw [e1, e2, cond_false, ZO n.Stations (fun s => decide (20 < (s.Name.size : Int))) (fun _ _ => false), Qz, ZO n.Trains (fun t => decide (20 < (t.Name.size : Int)) || decide (14 < (t.Steps.length : Int))) (fun _ _ => false)]
    · rcases Qaj (p := fun s : FeedStation => decide (20 < (s.Name.size : Int))) (res := fun _ _ => false) n.Stations 0 with ⟨k1, k2⟩ | ⟨j, x, k1, k2, k3⟩
      · rw [k1, k2]
        rcases Qaj (p := fun t : FeedTrain => decide (20 < (t.Name.size : Int)) || decide (14 < (t.Steps.length : Int))) (res := fun _ _ => false) n.Trains 0 with ⟨k3, k4⟩ | ⟨j, x, k3, k4, k5⟩
        · rw [k3, k4]; rfl
        · rw [k3, k5]; rfl
      · rw [k1, k3]; rfl
    · intro k hk
      unfold Qmh
      rw [XW hk, cond_true, XD hk, Qz, XY k (by omega)]
      cases h1 : decide (20 < (n.Trains[k].Name.size : Int)) <;> simp
    · unfold Qmh
      rw [XX]; rfl
    · intro k hk
      unfold Qmg
      rw [XW hk, cond_true, XD hk, Qz, XY k (by omega)]
    · unfold Qmg
      rw [XX]; rfl
theorem QFw {n : FeedNet} (h : Qdw n = true) : NetS n := by
  unfold Qdw at h
  simp only [Bool.and_eq_true, Bool.not_eq_true', Bool.or_eq_false_iff, decide_eq_false_iff_not, List.any_eq_false] at h
  obtain ⟨⟨⟨⟨h1, h2⟩, h3⟩, h4⟩, h5⟩ := h
  refine ⟨by omega, by omega, by omega, fun s hs => ?_, fun t ht => ?_⟩
  · have := h4 s hs; simp at this; omega
  · have := h5 t ht; simp at this; omega
def Qeq (l : List FeedDeparture) : Bool := !(decide (8 < l.length)) && !(l.any fun d => decide (20 < (d.Train.size : Int)))
theorem QMb (l : List FeedDeparture) : Qgx l = some (Qeq l) := by
  unfold Qgx Qeq
  by_cases h : 8 < l.length
  · rw [decide_eq_true (show 8 < (l.length : Int) by omega), decide_eq_true h]; rfl
  · rw [decide_eq_false (show ¬ 8 < (l.length : Int) by omega), decide_eq_false h, cond_false, ZO l (fun d => decide (20 < (d.Train.size : Int))) (fun _ _ => false)]
    · rcases Qaj (p := fun d : FeedDeparture => decide (20 < (d.Train.size : Int))) (res := fun _ _ => false) l 0 with ⟨k1, k2⟩ | ⟨j, x, k1, k2, k3⟩
      · rw [k1, k2]; rfl
      · rw [k1, k3]; rfl
    · intro k hk
      unfold Qmi
      rw [XW hk, cond_true, XD hk, Qz, XY k (by omega)]
    · unfold Qmi
      rw [XX]; rfl
theorem QMa {l : List FeedDeparture} (h : Qeq l = true) : l.length ≤ 8 := by
  unfold Qeq at h; simp at h; omega
end Go.Gw

end
section
set_option maxRecDepth 4096
namespace Go.Gw
open Go
def Jv (n : FeedNet) (d : FeedDeparture) (others : List FeedDeparture) : Int := if Yf n d.Train < 0 then 6 else if (others.any fun o => decide (o.Train = d.Train)) = true then 26 else bif !(decide (0 ≤ d.At) && decide (d.At ≤ 1000)) then 2 else 0
def YG (n : FeedNet) (l : List FeedDeparture) (i : Nat) : Int := (l[i]?.map fun d => Jv n d (l.take i)).getD 0
def Q8 (n : FeedNet) (d : FeedDeparture) : feed_run := feed_run.mk (n.Trains[(Yf n d.Train).toNat]?.getD default) d.At
theorem Qfa {n : FeedNet} {s : ByteArray} (h : 0 ≤ Yf n s) : ∃ t, n.Trains[(Yf n s).toNat]? = some t ∧ t.Name = s ∧ (Yf n s).toNat < n.Trains.length := by
  have key : ∀ (l : List FeedTrain) (m : Nat), (XS (fun t : FeedTrain => decide (t.Name = s)) (fun k _ => (k : Int)) m l = .inr ()) ∨ ∃ (j : Nat) (t : FeedTrain), XS (fun t : FeedTrain => decide (t.Name = s)) (fun k _ => (k : Int)) m l = .inl ((m + j : Nat) : Int) ∧ l[j]? = some t ∧ t.Name = s := by
    intro l
    induction l with
    | nil => intro m; exact .inl rfl
    | cons x xs ih =>
      intro m
      by_cases hx : x.Name = s
      · exact .inr ⟨0, x, by simp [XS, hx], rfl, hx⟩
      · rcases ih (m + 1) with h1 | ⟨j, t, h1, h2, h3⟩
        · exact .inl (by simp [XS, hx, h1])
        · exact .inr ⟨j + 1, t, by simp only [XS, hx, decide_false]; rw [← show m + 1 + j = m + (j + 1) by omega]; simpa using h1, h2, h3⟩
  rcases key n.Trains 0 with h1 | ⟨j, t, h1, h2, h3⟩
  · unfold Yf at h; rw [h1] at h; simp at h
  · have e : Yf n s = (j : Int) := by unfold Yf; rw [h1]; simp
    rw [e]
    exact ⟨t, by simpa using h2, h3, by simpa using (List.getElem?_eq_some_iff.1 h2).1⟩
theorem QBs (n : FeedNet) (s : ByteArray) (h : n.Trains.length < 1000000) : Qdn ⟨n⟩ s = some (Yf n s) := by
  unfold Qdn Qik Yf
  rw [ZO n.Trains (fun t => decide (t.Name = s)) (fun k _ => (k : Int)), Qz, Qip]
  · rfl
  · intro k hk
    unfold Qij
    rw [XW hk, cond_true, XD hk, Qz, XY k (by omega)]; rfl
  · unfold Qij
    rw [XX]; rfl
theorem QAd (l : List feed_run) (d : FeedDeparture) (hl : l.length < 1000000) : Qer l d = some (l.any fun r => decide (r.FeedTrain.Name = d.Train)) := by
  unfold Qer Qim
  rw [ZO l (fun r => decide (r.FeedTrain.Name = d.Train)) (fun k _ => (k : Int)), Qz, Qip, Qz, Qnu]
  · intro k hk
    unfold Qil
    rw [XW hk, cond_true, XD hk, Qz, XY k (by omega)]; rfl
  · unfold Qil
    rw [XX]; rfl
theorem Qkg {n : FeedNet} {d : FeedDeparture} {o : List FeedDeparture} (h : Jv n d o = 0) : 0 ≤ Yf n d.Train := by
  unfold Jv at h
  split at h
  · cases h
  · omega
theorem QLr {n : FeedNet} (s : ByteArray) (l : List FeedDeparture) (h : ∀ d ∈ l, 0 ≤ Yf n d.Train) : ((l.map (Q8 n)).any fun r => decide (r.FeedTrain.Name = s)) = l.any fun d => decide (d.Train = s) := by
  rw [List.any_map]
  induction l with
  | nil => rfl
  | cons d l ih =>
    simp only [List.any_cons]
    rw [ih fun x hx => h x (List.mem_cons_of_mem _ hx)]
    congr 1
    obtain ⟨t, h1, h2, _⟩ := Qfa (h d (List.mem_cons_self ..))
    simp [Q8, h1, h2]
theorem QGa (a b c : Int) : Zj [a, b, c] = if a ≠ 0 then a else if b ≠ 0 then b else c := by
  by_cases h : a = 0 <;> by_cases h2 : b = 0 <;> by_cases h3 : c = 0 <;> simp [Zj, h, h2, h3]
theorem Qpz (n : FeedNet) (l : List FeedDeparture) (hn : n.Trains.length < 1000) : Qab ⟨n⟩ l = some (if 6 < l.length then ([], 0, 8) else match X0 (YG n l) l.length with | some i => ([], (i : Int), YG n l i) | none => (l.map (Q8 n), 0, 0)) := by
  unfold Qab
  by_cases h6 : 6 < l.length
  · rw [decide_eq_true (show 6 < (l.length : Int) by omega), if_pos h6]; rfl
  · rw [decide_eq_false (show ¬ 6 < (l.length : Int) by omega), if_neg h6, cond_false]
    have key : loop (Qdm l ⟨n⟩) (([] : List feed_run), 0) = some (match X0 (YG n l) l.length with | some i => .inl ([], (i : Int), YG n l i) | none => .inr (l.map (Q8 n))) :=
      JC (fun k => ((l.take k).map (Q8 n), (k : Int))) l.length (YG n l) (fun i e => (([] : List feed_run), (i : Int), e)) (l.map (Q8 n)) (fun k hk hpre => by
        have hs : YG n l k = Jv n l[k] (l.take k) := Z9 _ _ _ hk
        have hall : ∀ d ∈ l.take k, 0 ≤ Yf n d.Train := fun d hd => by
          obtain ⟨j, hj, rfl⟩ := List.mem_iff_getElem.1 hd
          have hjk : j < k := by rw [List.length_take] at hj; omega
          have := hpre j hjk
          rw [show YG n l j = Jv n l[j] (l.take j) from Z9 _ _ _ (by omega)] at this
          rw [List.getElem_take]
          exact Qkg this
        rw [hs]
        unfold Qdm
        simp only [XW hk, cond_true, XD hk, Qz]
        rw [QBs n _ (by omega), Qz, QAd _ _ (by simp; omega), Qz, QLr _ _ hall]
        unfold Qav
        simp only [Jf, Qal, Qz]
        rw [JW _ (by simp), Qz, QGa]
        unfold Jv
        generalize (decide (0 ≤ l[k].At) && decide (l[k].At ≤ 1000)) = b
        generalize ((l.take k).any fun d => decide (d.Train = l[k].Train)) = tw
        by_cases ht : Yf n l[k].Train < 0
        · rw [decide_eq_false (show ¬ 0 ≤ Yf n l[k].Train by omega)]
          simp [ht]
        · rw [decide_eq_true (show 0 ≤ Yf n l[k].Train by omega), if_neg ht]
          cases tw
          · cases b
            · rfl
            · simp only [cond_true, Bool.not_false, Bool.not_true, cond_false, ne_eq, not_true_eq_false, if_false, decide_true]
              obtain ⟨t, h1, h2, h3⟩ := Qfa (show 0 ≤ Yf n l[k].Train by omega)
              have hidx : idx n.Trains (Yf n l[k].Train) = some t := by unfold idx; rw [if_pos (by omega)]; exact h1
              rw [hidx, Qz, ZH (by simp; omega), Qz, XY k (by omega)]
              have : feed_run.mk t l[k].At = Q8 n l[k] := by unfold Q8; rw [h1]; rfl
              rw [this, Qir l (Q8 n) k hk]
              rfl
          · rfl) (fun _ => by
        unfold Qdm
        simp only [XX, cond_false, List.take_length])
    rw [key, Qz]
    cases X0 (YG n l) l.length <;> rfl
theorem Qvm (n : FeedNet) (l : List FeedDeparture) (hn : n.Trains.length < 1000) : Qcl n l = some (if 6 < l.length then (0, 8) else match X0 (YG n l) l.length with | some i => ((i : Int), YG n l i) | none => (0, 0)) := by
  unfold Qcl
  by_cases h6 : 6 < l.length
  · rw [decide_eq_true (show 6 < (l.length : Int) by omega), if_pos h6]; rfl
  · rw [decide_eq_false (show ¬ 6 < (l.length : Int) by omega), if_neg h6, cond_false]
    have key : loop (Qhl l n) 0 = some (match X0 (YG n l) l.length with | some i => .inl ((i : Int), YG n l i) | none => .inr ()) :=
      JC (fun k => (k : Int)) l.length (YG n l) (fun i e => ((i : Int), e)) () (fun k hk _ => by
        have hs : YG n l k = Jv n l[k] (l.take k) := Z9 _ _ _ hk
        have hlen : (l.take k).length = k := by simp; omega
        have inner : loop (Qhk l (k : Int)) 0 = some (XS (fun y : FeedDeparture => decide (y.Train = l[k].Train)) (fun _ _ => Sum.inr (α := Int) (Sum.inl (β := Unit) ((k : Int), (26 : Int)))) 0 (l.take k)) :=
          ZO (l.take k) _ _ (fun j hj => by
            rw [hlen] at hj
            unfold Qhk
            rw [XW hj, cond_true, XD (show j < l.length by omega), Qz, XD hk, Qz, XY j (by omega)]
            simp only [List.getElem_take]) (by
            rw [hlen]
            unfold Qhk
            rw [XX]; rfl)
        rw [hs]
        unfold Qhl Jv
        rw [XW hk, cond_true, XD hk, Qz, Qhh _ _ (by omega), Qz, inner]
        by_cases ht : Yf n l[k].Train < 0
        · rw [decide_eq_true ht, if_pos ht]; rfl
        · rw [decide_eq_false ht, if_neg ht, cond_false, Qz]
          rcases Qaj (p := fun y : FeedDeparture => decide (y.Train = l[k].Train)) (res := fun _ _ => Sum.inr (α := Int) (Sum.inl (β := Unit) ((k : Int), (26 : Int)))) (l.take k) 0 with ⟨k1, k2⟩ | ⟨j, x, k1, k2, k3⟩
          · rw [k1, k2]
            simp only [jn0, Qz, Qat, XY k (show k < 4611686018427387904 by omega)]
            generalize (decide (0 ≤ l[k].At) && decide (l[k].At ≤ 1000)) = b
            cases b <;> rfl
          · rw [k1, k3]; rfl) (fun _ => by
        unfold Qhl
        rw [XX]; rfl)
    rw [key, Qz]
    cases X0 (YG n l) l.length <;> rfl
end Go.Gw

end
section
set_option maxRecDepth 4096
namespace Go.Gw
open Go
/-! ### The greatest common divisor -/
noncomputable def QGr (n A : Int) : Frac := (Qzt n A).getD default
/-! ### Sums -/
theorem Qnv {c : Int} (hc : 0 ≤ c) : ∀ {l : List Int}, (∀ x ∈ l, -c ≤ x ∧ x ≤ c) → -(c * l.length) ≤ l.sum ∧ l.sum ≤ c * l.length
  | [], _ => by simp
  | x :: l, h => by
    have h1 := h x (List.mem_cons_self ..)
    have h2 := Qnv hc (l := l) fun y hy => h y (List.mem_cons_of_mem _ hy)
    simp only [List.sum_cons, List.length_cons]
    have : c * ((l.length + 1 : Nat) : Int) = c * l.length + c := by rw [Int.natCast_add, Int.mul_add]; simp
    rw [this]
    omega
theorem Qxs {l : List Int} {k : Nat} (hk : k < l.length) : (l.take (k + 1)).sum = (l.take k).sum + l[k] := by
  rw [List.take_add_one, List.getElem?_eq_getElem hk, List.sum_append]
  simp
theorem QNp {l : List Int} {c : Int} (hc : 0 ≤ c) (hc2 : c ≤ 1000000000) (h : ∀ x ∈ l, -c ≤ x ∧ x ≤ c) (hl : l.length ≤ 1000) : Qib l = some l.sum := by
  have key : loop (Qia l) (0, 0) = some l.sum := ZN (o := l.sum) (fun k => ((l.take k).sum, (k : Int))) l.length ?_ ?_
  · unfold Qib
    rw [key]; rfl
  · intro k hk
    unfold Qia
    have hb := Qnv hc (l := l.take (k + 1)) fun x hx => h x (List.mem_of_mem_take hx)
    have hlen : (l.take (k + 1)).length = k + 1 := by simp; omega
    rw [hlen, Qxs hk] at hb
    have hm : c * ((k + 1 : Nat) : Int) ≤ 1000000000 * 1000 := Int.mul_le_mul hc2 (by omega) (by omega) (by omega)
    simp only [XW hk, cond_true, XD hk, Qz]
    rw [Ya (by omega), XY k (by omega), Qxs hk]
  · unfold Qia
    simp only [XX, cond_false, List.take_length]
end Go.Gw

end
section
set_option maxRecDepth 4096
namespace Go.Gw
open Go
def Z7 (st : List FeedStep) (k : Int) (s : Nat) : Int := if 0 ≤ k ∧ k ≤ (st.length : Int) - 1 then (match st[k.toNat]? with | some x => if x.Section = (s : Int) then x.Power else 0 | none => 0) else 0
def XI (l : List feed_run) (t : Int) (s : Nat) : Int := (l.map fun r => Z7 r.FeedTrain.Steps (t - r.at_) s).sum
def ZE (m : Nat) (r : feed_run) : Prop := (∀ x ∈ r.FeedTrain.Steps, 0 ≤ x.Section ∧ x.Section ≤ (m : Int) - 1 ∧ -20000 ≤ x.Power ∧ x.Power ≤ 20000) ∧ r.FeedTrain.Steps.length ≤ 12 ∧ 0 ≤ r.at_ ∧ r.at_ ≤ 1000
theorem QAq {m : Nat} {r : feed_run} (h : ZE m r) (k : Int) (s : Nat) : -20000 ≤ Z7 r.FeedTrain.Steps k s ∧ Z7 r.FeedTrain.Steps k s ≤ 20000 := by
  unfold Z7
  split
  · split
    · rename_i x hx
      have := h.1 x (List.mem_of_getElem? hx)
      split <;> omega
    · omega
  · omega
theorem Qmx {m : Nat} {l : List feed_run} (h : ∀ r ∈ l, ZE m r) (t : Int) (s : Nat) : -(20000 * (l.length : Int)) ≤ XI l t s ∧ XI l t s ≤ 20000 * (l.length : Int) := by
  have := Qnv (c := 20000) (by omega) (l := l.map fun r => Z7 r.FeedTrain.Steps (t - r.at_) s) fun x hx => by
    obtain ⟨r, hr, rfl⟩ := List.mem_map.1 hx
    exact QAq (h r hr) _ _
  simpa [XI] using this
theorem Qmy {l : List feed_run} {t : Int} {s k : Nat} (hk : k < l.length) : XI (l.take (k + 1)) t s = XI (l.take k) t s + Z7 l[k].FeedTrain.Steps (t - l[k].at_) s := by
  unfold XI
  rw [List.take_add_one, List.getElem?_eq_getElem hk, List.map_append, List.sum_append]
  simp
theorem QLz {m : Nat} {f g : Nat → Int} {s : Nat} (hs : s < m) (hv : ∀ i, i ≠ s → g i = f i) : ((List.range m).map f).set s (g s) = (List.range m).map g := by
  apply List.ext_getElem?
  intro i
  by_cases hi : i = s
  · subst hi
    rw [List.getElem?_set_self (by simpa using hs)]
    simp [hs]
  · rw [List.getElem?_set_ne (Ne.symm hi)]
    by_cases him : i < m
    · simp [him, hv i hi]
    · simp [him]
theorem Qmm (m : Nat) (h : m < 1000) : mk (m : Int) (0 : Int) = some ((List.range m).map fun _ => (0 : Int)) := by
  unfold mk
  rw [if_pos (by omega)]
  congr 1
  apply List.ext_getElem?
  intro i
  by_cases hi : i < m <;> simp [hi]
theorem QNo {m : Nat} {r : feed_run} (h : ZE m r) {t : Int} (ht : 0 ≤ t) (ht2 : t ≤ 100000) :
    ∃ o, Qbw r t = some o ∧ ((o.2 = false ∧ ∀ s, Z7 r.FeedTrain.Steps (t - r.at_) s = 0) ∨ (o.2 = true ∧ 0 ≤ o.1.Section ∧ o.1.Section ≤ (m : Int) - 1 ∧ -20000 ≤ o.1.Power ∧ o.1.Power ≤ 20000 ∧ ∀ s : Nat, Z7 r.FeedTrain.Steps (t - r.at_) s = if o.1.Section = (s : Int) then o.1.Power else 0)) := by
  obtain ⟨h1, h2, h3, h4⟩ := h
  unfold Qbw
  rw [Ya (by omega), Ya (by omega), Qal, Qz]
  by_cases hin : 0 ≤ t - r.at_ ∧ t - r.at_ ≤ (r.FeedTrain.Steps.length : Int) - 1
  · have e : (decide (0 ≤ t - r.at_) && decide (t - r.at_ ≤ (r.FeedTrain.Steps.length : Int) - 1)) = true := by
      rw [decide_eq_true hin.1, decide_eq_true hin.2]; rfl
    have hk : (t - r.at_).toNat < r.FeedTrain.Steps.length := by omega
    have hidx : idx r.FeedTrain.Steps (t - r.at_) = some r.FeedTrain.Steps[(t - r.at_).toNat] := by
      unfold idx; rw [if_pos hin.1, List.getElem?_eq_getElem hk]
    rw [e]
    simp only [Bool.not_true, cond_false]
    rw [hidx, Qz]
    have hb := h1 _ (List.getElem_mem hk)
    refine ⟨_, rfl, .inr ⟨rfl, hb.1, hb.2.1, hb.2.2.1, hb.2.2.2, fun s => ?_⟩⟩
    unfold Z7
    rw [if_pos hin, List.getElem?_eq_getElem hk]
  · have e : (decide (0 ≤ t - r.at_) && decide (t - r.at_ ≤ (r.FeedTrain.Steps.length : Int) - 1)) = false := by
      rw [Bool.eq_false_iff]; intro e; simp at e; exact hin (by omega)
    rw [e]
    exact ⟨_, rfl, .inl ⟨rfl, fun s => by unfold Z7; rw [if_neg hin]⟩⟩
theorem QJy {n : FeedNet} {l : List feed_run} (hn : n.Sections.length < 1000) (hl : l.length ≤ 8) (h : ∀ r ∈ l, ZE n.Sections.length r) {t : Int} (ht : 0 ≤ t) (ht2 : t ≤ 100000) :
    Qbu ⟨n⟩ l t = some ((List.range n.Sections.length).map (XI l t)) := by
  have key : loop (Qdl l t) ((List.range n.Sections.length).map (fun _ => (0 : Int)), 0) = some ((List.range n.Sections.length).map (XI l t)) :=
    ZN (fun k => ((List.range n.Sections.length).map (XI (l.take k) t), (k : Int))) l.length (fun k hk => by
      obtain ⟨o, ho, hc⟩ := QNo (h _ (List.getElem_mem hk)) ht ht2
      unfold Qdl
      simp only [XW hk, cond_true, XD hk, Qz, ho]
      rw [XY k (by omega)]
      rcases hc with ⟨h1, h2⟩ | ⟨h1, h2, h3, h4, h5, h6⟩
      · rw [h1, cond_false]
        congr 3
        apply List.map_congr_left
        intro s _
        rw [Qmy hk, h2 s]; simp
      · rw [h1, cond_true]
        have hs : o.1.Section.toNat < n.Sections.length := by omega
        have hsi : ((o.1.Section.toNat : Nat) : Int) = o.1.Section := by omega
        have hidx : idx ((List.range n.Sections.length).map (XI (l.take k) t)) o.1.Section = some (XI (l.take k) t o.1.Section.toNat) := by
          unfold idx; rw [if_pos h2]; simp [hs]
        have hb := Qmx (l := l.take k) (fun r hr => h r (List.mem_of_mem_take hr)) t o.1.Section.toNat
        have hlen : (l.take k).length ≤ 8 := by rw [List.length_take]; omega
        have hnew : w64 (XI (l.take k) t o.1.Section.toNat + o.1.Power) = XI (l.take (k + 1)) t o.1.Section.toNat := by
          rw [Qmy hk, h6, if_pos (by omega)]; exact Ya (by omega)
        rw [hidx, Qz, Qz, hnew, QLz (f := XI (l.take k) t) (g := XI (l.take (k + 1)) t) hs (fun i hi => by rw [Qmy hk, h6, if_neg (by omega)]; simp)]) (by
      unfold Qdl
      simp only [XX, cond_false, List.take_length])
  unfold Qbu
  rw [Qmm _ hn, Qz, key]; rfl
end Go.Gw

end
section
set_option maxRecDepth 4096
namespace Go.Gw
open Go
structure NetOk (n : FeedNet) : Prop where
  st0 : 0 < n.Stations.length
  st6 : n.Stations.length ≤ 6
  se0 : 0 < n.Sections.length
  se10 : n.Sections.length ≤ 10
  tr6 : n.Trains.length ≤ 6
  lim : ∀ s ∈ n.Stations, 0 ≤ s.Limit ∧ s.Limit ≤ 100000
  sec : ∀ s ∈ n.Sections, ZV s n.Stations.length = 0
  tr : ∀ t ∈ n.Trains, JN t n.Sections.length = 0
theorem Qtf {f : Nat → Int} {n : Nat} (h : (match X0 f n with | some i => f i | none => 0) = 0) : ∀ j, j < n → f j = 0 := by
  rcases Qac f n with ⟨h1, h2⟩ | ⟨i, h1, h2, h3, h4⟩
  · exact h2
  · rw [h1] at h; exact absurd h h3
theorem QHh {n : FeedNet} (h : (ZQ n).2 = 0) : NetOk n := by
  unfold ZQ at h
  split at h
  · cases h
  · rename_i h1
    split at h
    · cases h
    · rename_i h2
      rcases Qac (Zw n) n.Stations.length with ⟨a1, a2⟩ | ⟨i, a1, a2, a3, _⟩
      · rw [a1] at h
        rcases Qac (Zv n) n.Sections.length with ⟨b1, b2⟩ | ⟨i, b1, b2, b3, _⟩
        · rw [b1] at h
          rcases Qac (Zz n) n.Trains.length with ⟨c1, c2⟩ | ⟨i, c1, c2, c3, _⟩
          · refine ⟨by omega, by omega, by omega, by omega, by omega, fun s hs => ?_, fun s hs => ?_, fun t ht => ?_⟩
            · obtain ⟨k, hk, rfl⟩ := List.mem_iff_getElem.1 hs
              have := a2 k hk
              rw [show Zw n k = stE n.Stations[k] ((n.Stations.take k).map (·.Name)) from Z9 _ _ _ hk] at this
              unfold stE at this
              split at this
              · rename_i hc; exact absurd this hc
              · cases hb : (decide (0 ≤ n.Stations[k].Limit) && decide (n.Stations[k].Limit ≤ 100000)) with
                | true => simpa using hb
                | false => rw [hb] at this; cases this
            · obtain ⟨k, hk, rfl⟩ := List.mem_iff_getElem.1 hs
              have := b2 k hk
              rwa [show Zv n k = ZV n.Sections[k] n.Stations.length from Z9 _ _ _ hk] at this
            · obtain ⟨k, hk, rfl⟩ := List.mem_iff_getElem.1 ht
              have := c2 k hk
              rw [show Zz n k = trE n.Trains[k] ((n.Trains.take k).map (·.Name)) n.Sections.length from Z9 _ _ _ hk] at this
              unfold trE at this
              split at this
              · rename_i hc; exact absurd this hc
              · exact this
          · rw [c1] at h; exact absurd h c3
        · rw [b1] at h; exact absurd h b3
      · rw [a1] at h; exact absurd h a3
theorem QOo {t : FeedTrain} {m : Nat} (h : JN t m = 0) : (0 ≤ t.Earliest ∧ t.Earliest ≤ 1000) ∧ (0 ≤ t.Latest ∧ t.Latest ≤ 1000) ∧ t.Earliest ≤ t.Latest ∧ 0 < t.Steps.length ∧ t.Steps.length ≤ 12 ∧ ∀ x ∈ t.Steps, 0 ≤ x.Section ∧ x.Section ≤ (m : Int) - 1 ∧ -20000 ≤ x.Power ∧ x.Power ≤ 20000 := by
  unfold JN Qyi at h
  cases h1 : (decide (0 ≤ t.Earliest) && decide (t.Earliest ≤ 1000)) with
  | false => rw [h1] at h; cases h
  | true =>
    cases h2 : (decide (0 ≤ t.Latest) && decide (t.Latest ≤ 1000)) with
    | false => rw [h1, h2] at h; cases h
    | true =>
      cases h3 : decide (t.Earliest ≤ t.Latest) with
      | false => rw [h1, h2, h3] at h; cases h
      | true =>
        cases h4 : decide (0 < (t.Steps.length : Int)) with
        | false => rw [h1, h2, h3, h4] at h; cases h
        | true =>
          cases h5 : decide ((t.Steps.length : Int) ≤ 12) with
          | false => rw [h1, h2, h3, h4, h5] at h; cases h
          | true =>
            rw [h1, h2, h3, h4, h5] at h
            simp only [Bool.and_self, Bool.not_true, cond_false] at h
            unfold Qiq at h
            have hz := Qtf h
            simp only [Bool.and_eq_true, decide_eq_true_eq] at h1 h2 h3 h4 h5
            refine ⟨h1, h2, h3, by omega, by omega, fun x hx => ?_⟩
            obtain ⟨k, hk, rfl⟩ := List.mem_iff_getElem.1 hx
            have := hz k hk
            rw [Qmd _ _ _ hk] at this
            unfold ZW at this
            cases a : (decide (0 ≤ t.Steps[k].Section) && decide (t.Steps[k].Section ≤ (m : Int) - 1)) with
            | false => rw [a] at this; cases this
            | true =>
              cases b : (decide (-20000 ≤ t.Steps[k].Power) && decide (t.Steps[k].Power ≤ 20000)) with
              | false => rw [a, b] at this; cases this
              | true =>
                simp only [Bool.and_eq_true, decide_eq_true_eq] at a b
                exact ⟨a.1, a.2, b.1, b.2⟩
theorem QLm {n : FeedNet} (hn : NetOk n) {d : FeedDeparture} {o : List FeedDeparture} (h : Jv n d o = 0) : ZE n.Sections.length (Q8 n d) := by
  have h0 := Qkg h
  obtain ⟨t, h1, h2, h3⟩ := Qfa h0
  have ht := QOo (hn.tr t (List.mem_of_getElem? h1))
  unfold Jv at h
  rw [if_neg (by omega)] at h
  split at h
  · cases h
  · cases b : (decide (0 ≤ d.At) && decide (d.At ≤ 1000)) with
    | false => rw [b] at h; cases h
    | true =>
      simp only [Bool.and_eq_true, decide_eq_true_eq] at b
      unfold ZE Q8
      rw [h1]
      exact ⟨ht.2.2.2.2.2, ht.2.2.2.2.1, b.1, b.2⟩
end Go.Gw

end
section
set_option maxRecDepth 4096
namespace Go.Gw
open Go
structure LadOk (l : FeedLadder) : Prop where
  pos : 0 < l.Loads.length
  most : l.Loads.length ≤ 8
  len : l.Ohms.length = l.Loads.length + 1
  ohm : ∀ x ∈ l.Ohms, 1 ≤ x ∧ x ≤ 500
  load : ∀ x ∈ l.Loads, -20000 ≤ x ∧ x ≤ 20000
theorem Qea {a b m n : Int} (ha : -m ≤ a ∧ a ≤ m) (hb : -n ≤ b ∧ b ≤ n) : -(m * n) ≤ a * b ∧ a * b ≤ m * n := by
  have h1 : a.natAbs ≤ m.natAbs := by omega
  have h2 : b.natAbs ≤ n.natAbs := by omega
  have h3 := Nat.mul_le_mul h1 h2
  rw [← Int.natAbs_mul, ← Int.natAbs_mul] at h3
  have h4 : 0 ≤ m * n := Int.mul_nonneg (by omega) (by omega)
  omega
def pk (l : FeedLadder) (k : Nat) : Int := (l.Loads.take k).sum
def lf (l : FeedLadder) : Nat → Int
  | 0 => 0
  | k + 1 => lf l k + l.Ohms.getD k 0 * pk l k
def rk (l : FeedLadder) : Nat → Int
  | 0 => 0
  | k + 1 => rk l k + l.Loads.getD k 0 * (l.Ohms.drop (k + 1)).sum
section
variable {l : FeedLadder} (h : LadOk l)
include h
end
noncomputable def QQe (l : FeedLadder) (A L : Int) (n : Nat) : List Frac := (List.range n).map fun i => QGr (L - pk l i * A) A
section
variable {l : FeedLadder} (h : LadOk l)
include h
end
end Go.Gw

end
section
set_option maxRecDepth 4096
namespace Go.Gw
open Go
def XT (s : FeedSection) (p : Int) : Int := if p < 0 then p * (1000 - s.Loss) else p * (1000 + s.Loss)
def X1 (s : FeedSection) (k : Int) : Int := if s.Left = k then s.Share else if s.Right = k then 1000 - s.Share else 0
def Z0 (s : FeedSection) : Prop := (0 ≤ s.Share ∧ s.Share ≤ 1000) ∧ 0 ≤ s.Loss ∧ s.Loss ≤ 500
theorem Qwj {s : FeedSection} {n : Nat} (h : ZV s n = 0) : Z0 s := by
  unfold ZV Qwk at h
  have key : ((decide (0 ≤ s.Share) && decide (s.Share ≤ 1000)) && (decide (0 ≤ s.Loss) && decide (s.Loss ≤ 500))) = true := by
    cases hb : ((decide (0 ≤ s.Share) && decide (s.Share ≤ 1000)) && (decide (0 ≤ s.Loss) && decide (s.Loss ≤ 500))) with
    | true => rfl
    | false =>
      rw [hb] at h
      revert h
      generalize ((!(decide (s.Left = -1) || (decide (0 ≤ s.Left) && decide (s.Left ≤ (n : Int) - 1)))) || !(decide (s.Right = -1) || (decide (0 ≤ s.Right) && decide (s.Right ≤ (n : Int) - 1)))) = a
      generalize (decide (s.Left = -1) && decide (s.Right = -1)) = b
      generalize decide (s.Left = s.Right) = c
      cases a <;> cases b <;> cases c <;> intro h <;> cases h
  simp only [Bool.and_eq_true, decide_eq_true_eq] at key
  exact ⟨key.1, key.2⟩
theorem Qgb {s : FeedSection} (hs : Z0 s) {p : Int} (hp : -160000 ≤ p ∧ p ≤ 160000) : -240000000 ≤ XT s p ∧ XT s p ≤ 240000000 := by
  obtain ⟨_, h1, h2⟩ := hs
  unfold XT
  split
  · have := Qea (a := p) (b := 1000 - s.Loss) (m := 160000) (n := 1500) hp (by omega); omega
  · have := Qea (a := p) (b := 1000 + s.Loss) (m := 160000) (n := 1500) hp (by omega); omega
theorem Qnk {s : FeedSection} (hs : Z0 s) (k : Int) : -1000 ≤ X1 s k ∧ X1 s k ≤ 1000 := by
  obtain ⟨h0, _⟩ := hs
  unfold X1
  split
  · omega
  · split <;> omega
theorem Qpx {s : FeedSection} (hs : Z0 s) {p : Int} (hp : -160000 ≤ p ∧ p ≤ 160000) : Qbm s p = some (XT s p) := by
  have hb := Qgb hs hp
  obtain ⟨_, h1, h2⟩ := hs
  unfold Qbm XT at *
  by_cases h : p < 0
  · rw [if_pos h] at hb ⊢
    rw [decide_eq_true h, cond_true, Ya (x := 1000 - s.Loss) (by omega), Ya (by omega)]
  · rw [if_neg h] at hb ⊢
    rw [decide_eq_false h, cond_false, Ya (x := 1000 + s.Loss) (by omega), Ya (by omega)]
theorem QKg {s : FeedSection} (hs : Z0 s) {p : Int} (hp : -160000 ≤ p ∧ p ≤ 160000) : Qnc s p = some (XT s p) := Qpx hs hp
theorem Qvn {s : FeedSection} (hs : Z0 s) (k : Int) : Qem s k = some (X1 s k) := by
  obtain ⟨h0, _⟩ := hs
  unfold Qem X1
  by_cases h1 : s.Left = k
  · rw [decide_eq_true h1, if_pos h1]; rfl
  · rw [decide_eq_false h1, if_neg h1]
    by_cases h2 : s.Right = k
    · rw [decide_eq_true h2, if_pos h2]
      simp only [cond_false, cond_true]
      rw [Ya (by omega)]
    · rw [decide_eq_false h2, if_neg h2]; rfl
theorem QBj {s : FeedSection} (hs : Z0 s) (k : Int) : Qbn s k = some (X1 s k) := by
  rw [← Qvn hs k]
  unfold Qbn Qem
  rw [show decide (k = s.Left) = decide (s.Left = k) from decide_eq_decide.2 eq_comm, show decide (k = s.Right) = decide (s.Right = k) from decide_eq_decide.2 eq_comm]
end Go.Gw

end
section
set_option maxRecDepth 4096
namespace Go.Gw
open Go
def Y9 (secs : List FeedSection) (f : Nat → Int) (k : Nat) : Nat → Int
  | 0 => 0
  | j + 1 => Y9 secs f k j + (secs[j]?.map fun s => XT s (f j) * X1 s (k : Int)).getD 0
section
variable {secs : List FeedSection} {f : Nat → Int} (hs : ∀ s ∈ secs, Z0 s) (hf : ∀ j, -160000 ≤ f j ∧ f j ≤ 160000)
include hs hf
theorem QOl (k j : Nat) : -240000000000 ≤ (secs[j]?.map fun s => XT s (f j) * X1 s (k : Int)).getD 0 ∧ (secs[j]?.map fun s => XT s (f j) * X1 s (k : Int)).getD 0 ≤ 240000000000 := by
  by_cases hj : j < secs.length
  · rw [List.getElem?_eq_getElem hj]
    have h1 := hs _ (List.getElem_mem hj)
    have := Qea (Qgb h1 (hf j)) (Qnk h1 (k : Int))
    simp only [Option.map_some, Option.getD_some]
    omega
  · rw [List.getElem?_eq_none (Nat.le_of_not_lt hj)]; simp
theorem Qmk (k : Nat) : ∀ j : Nat, -(240000000000 * (j : Int)) ≤ Y9 secs f k j ∧ Y9 secs f k j ≤ 240000000000 * (j : Int)
  | 0 => by simp [Y9]
  | j + 1 => by
    have h1 := Qmk k j
    have h2 := QOl hs hf k j
    simp only [Y9]
    omega
end
theorem Qtj {secs : List FeedSection} {f : Nat → Int} {k j : Nat} (hj : j < secs.length) : (secs[j]?.map fun s => XT s (f j) * X1 s (k : Int)).getD 0 = XT secs[j] (f j) * X1 secs[j] (k : Int) := by
  rw [List.getElem?_eq_getElem hj]; rfl
theorem Qvo (m j : Nat) (hj : j < m) (f g : Nat → Int) : ((List.range m).map fun i => if i < j then g i else f i).set j (g j) = (List.range m).map fun i => if i < j + 1 then g i else f i := by
  apply List.ext_getElem?
  intro i
  by_cases hi : i = j
  · subst hi
    rw [List.getElem?_set_self (by simpa using hj)]
    simp [hj]
  · rw [List.getElem?_set_ne (Ne.symm hi)]
    by_cases him : i < m
    · simp only [List.getElem?_map, List.getElem?_range him, Option.map_some, Option.some.injEq]
      by_cases h1 : i < j
      · rw [if_pos h1, if_pos (by omega)]
      · rw [if_neg h1, if_neg (by omega)]
    · simp [him]
theorem Qtm (m j : Nat) (hj : j < m) (f g : Nat → Int) : idx ((List.range m).map fun i => if i < j then g i else f i) (j : Int) = some (f j) := by
  rw [XD?]
  simp [hj]
theorem QBk {s : FeedSection} (hs : Z0 s) {p : Int} (hp : -160000 ≤ p ∧ p ≤ 160000) {m : Nat} (hm : m < 1000) {f : Nat → Int} (hf : ∀ i, -1000000000000000 ≤ f i ∧ f i ≤ 1000000000000000) :
    loop (Qbp p s ((List.range m).map f)) ((List.range m).map f, 0) = some ((List.range m).map fun i => f i + XT s p * X1 s (i : Int)) := by
  have e0 : ((List.range m).map fun i => if i < 0 then f i + XT s p * X1 s (i : Int) else f i) = (List.range m).map f := by
    apply List.map_congr_left; intro i _; simp
  have eN : ((List.range m).map fun i => if i < m then f i + XT s p * X1 s (i : Int) else f i) = (List.range m).map fun i => f i + XT s p * X1 s (i : Int) := by
    apply List.map_congr_left; intro i hi; rw [if_pos (List.mem_range.1 hi)]
  have hlen : (((List.range m).map f).length : Int) = (m : Int) := by simp
  have key := ZN (step := Qbp p s ((List.range m).map f)) (o := (List.range m).map fun i => f i + XT s p * X1 s (i : Int)) (fun j => ((List.range m).map fun i => if i < j then f i + XT s p * X1 s (i : Int) else f i, (j : Int))) m (fun j hj => by
    have hb := Qea (Qgb hs hp) (Qnk hs (j : Int))
    have hfj := hf j
    unfold Qbp
    simp only [hlen, XW hj, cond_true, Qtm m j hj f (fun i => f i + XT s p * X1 s (i : Int)), Qz]
    rw [Qpx hs hp, Qz, QBj hs, Qz, Ya (x := XT s p * X1 s (j : Int)) (by omega), Ya (x := f j + XT s p * X1 s (j : Int)) (by omega), XY j (by omega)]
    simp only [Int.toNat_natCast]
    rw [Qvo m j hj f (fun i => f i + XT s p * X1 s (i : Int))]) (by
    unfold Qbp
    simp only [hlen, XX, cond_false, eN])
  simp only [e0] at key
  exact key
def YV (n : FeedNet) (f : Nat → Int) : List Int := (List.range n.Stations.length).map fun k => Y9 n.Sections f k n.Sections.length
theorem QBm {n : FeedNet} (hn : NetOk n) {l : List feed_run} (hl : l.length ≤ 8) (h : ∀ r ∈ l, ZE n.Sections.length r) {t : Int} (ht : 0 ≤ t) (ht2 : t ≤ 100000) : Qbq ⟨n⟩ l t = some (YV n (XI l t)) := by
  have h1 := hn.st6
  have h2 := hn.se10
  have hs : ∀ s ∈ n.Sections, Z0 s := fun s hx => Qwj (hn.sec s hx)
  have hf : ∀ j, -160000 ≤ XI l t j ∧ XI l t j ≤ 160000 := fun j => by have := Qmx h t j; omega
  have hlen : (((List.range n.Sections.length).map (XI l t)).length : Int) = (n.Sections.length : Int) := by simp
  have key : loop (Qdk ⟨n⟩ ((List.range n.Sections.length).map (XI l t))) ((List.range n.Stations.length).map (fun _ => (0 : Int)), 0) = some (YV n (XI l t)) :=
    ZN (fun j => ((List.range n.Stations.length).map (fun k => Y9 n.Sections (XI l t) k j), (j : Int))) n.Sections.length (fun j hj => by
      have hb : ∀ k, -1000000000000000 ≤ Y9 n.Sections (XI l t) k j ∧ Y9 n.Sections (XI l t) k j ≤ 1000000000000000 := fun k => by have := Qmk hs hf k j; omega
      have hidx : idx ((List.range n.Sections.length).map (XI l t)) (j : Int) = some (XI l t j) := by rw [XD?]; simp [hj]
      unfold Qdk
      simp only [hlen, XW hj, cond_true, hidx, Qz, XD hj]
      rw [QBk (hs _ (List.getElem_mem hj)) (hf j) (by omega) hb, Qz, XY j (by omega)]
      congr 3
      apply List.map_congr_left
      intro k _
      simp only [Y9, Qtj hj]) (by
      unfold Qdk YV
      simp only [hlen, XX, cond_false])
  unfold Qbq
  show (Option.bind (mk (n.Stations.length : Int) (0 : Int)) _) = _
  rw [Qmm _ (by omega), Qz, QJy (by omega) hl h ht ht2, Qz, key]
  rfl
theorem QKh {s : FeedSection} (hs : Z0 s) {p : Int} (hp : -160000 ≤ p ∧ p ≤ 160000) {m : Nat} (hm : m < 1000) {f : Nat → Int} (hf : ∀ i, -1000000000000000 ≤ f i ∧ f i ≤ 1000000000000000) :
    loop (Qej s (XT s p)) ((List.range m).map f, 0) = some ((List.range m).map fun i => f i + XT s p * X1 s (i : Int)) := by
  have e0 : ((List.range m).map fun i => if i < 0 then f i + XT s p * X1 s (i : Int) else f i) = (List.range m).map f := by
    apply List.map_congr_left; intro i _; simp
  have eN : ((List.range m).map fun i => if i < m then f i + XT s p * X1 s (i : Int) else f i) = (List.range m).map fun i => f i + XT s p * X1 s (i : Int) := by
    apply List.map_congr_left; intro i hi; rw [if_pos (List.mem_range.1 hi)]
  have key := ZN (step := Qej s (XT s p)) (o := (List.range m).map fun i => f i + XT s p * X1 s (i : Int)) (fun j => ((List.range m).map fun i => if i < j then f i + XT s p * X1 s (i : Int) else f i, (j : Int))) m (fun j hj => by
    have hb := Qea (Qgb hs hp) (Qnk hs (j : Int))
    have hfj := hf j
    have hlen : (((List.range m).map fun i => if i < j then f i + XT s p * X1 s (i : Int) else f i).length : Int) = (m : Int) := by simp
    unfold Qej
    simp only [hlen, XW hj, cond_true, Qtm m j hj f (fun i => f i + XT s p * X1 s (i : Int)), Qz]
    rw [Qvn hs, Qz, Ya (x := XT s p * X1 s (j : Int)) (by omega), Ya (x := f j + XT s p * X1 s (j : Int)) (by omega), XY j (by omega)]
    simp only [Int.toNat_natCast]
    rw [Qvo m j hj f (fun i => f i + XT s p * X1 s (i : Int))]) (by
    have hlen : (((List.range m).map fun i => f i + XT s p * X1 s (i : Int)).length : Int) = (m : Int) := by simp
    unfold Qej
    simp only [eN, hlen, XX, cond_false])
  simp only [e0] at key
  exact key
theorem QKj {n : FeedNet} (hn : NetOk n) {l : List FeedDeparture} {t : Int} {f : Nat → Int} (hf : ∀ j, -160000 ≤ f j ∧ f j ≤ 160000) (hp : ∀ j : Nat, j < n.Sections.length → Qel n l (j : Int) t = some (f j)) : Qek n l t = some (YV n f) := by
  have h1 := hn.st6
  have h2 := hn.se10
  have hs : ∀ s ∈ n.Sections, Z0 s := fun s hx => Qwj (hn.sec s hx)
  have key : loop (Qhv l n t) ((List.range n.Stations.length).map (fun _ => (0 : Int)), 0) = some (YV n f) :=
    ZN (fun j => ((List.range n.Stations.length).map (fun k => Y9 n.Sections f k j), (j : Int))) n.Sections.length (fun j hj => by
      have hb : ∀ k, -1000000000000000 ≤ Y9 n.Sections f k j ∧ Y9 n.Sections f k j ≤ 1000000000000000 := fun k => by have := Qmk hs hf k j; omega
      unfold Qhv
      simp only [XW hj, cond_true, XD hj, Qz, hp j hj]
      rw [QKg (hs _ (List.getElem_mem hj)) (hf j), Qz, QKh (hs _ (List.getElem_mem hj)) (hf j) (by omega) hb, Qz, XY j (by omega)]
      congr 3
      apply List.map_congr_left
      intro k _
      simp only [Y9, Qtj hj]) (by
      unfold Qhv YV
      simp only [XX, cond_false])
  unfold Qek
  rw [Qmm _ (by omega), Qz, key]
  rfl
end Go.Gw

end
section
set_option maxRecDepth 4096
namespace Go.Gw
open Go
def pd (t : Int) (s : Nat) (r : feed_run) : List Int := if 0 ≤ t - r.at_ ∧ t - r.at_ ≤ (r.FeedTrain.Steps.length : Int) - 1 then (match r.FeedTrain.Steps[(t - r.at_).toNat]? with | some x => if x.Section = (s : Int) then [x.Power] else [] | none => []) else []
theorem QJx (t : Int) (s : Nat) (r : feed_run) : (pd t s r).sum = Z7 r.FeedTrain.Steps (t - r.at_) s := by
  unfold pd Z7
  by_cases h : 0 ≤ t - r.at_ ∧ t - r.at_ ≤ (r.FeedTrain.Steps.length : Int) - 1
  · rw [if_pos h, if_pos h]
    cases hx : r.FeedTrain.Steps[(t - r.at_).toNat]? with
    | none => rfl
    | some x => by_cases hs : x.Section = (s : Int) <;> simp [hs]
  · rw [if_neg h, if_neg h]; rfl
theorem QJv (t : Int) (s : Nat) (r : feed_run) : (pd t s r).length ≤ 1 := by
  unfold pd
  split
  · split
    · split <;> simp
    · simp
  · simp
theorem QJw {m : Nat} {r : feed_run} (h : ZE m r) (t : Int) (s : Nat) : ∀ x ∈ pd t s r, -20000 ≤ x ∧ x ≤ 20000 := by
  intro x hx
  unfold pd at hx
  split at hx
  · split at hx
    · rename_i y hy
      split at hx
      · obtain rfl := List.mem_singleton.1 hx
        have := h.1 y (List.mem_of_getElem? hy); omega
      · cases hx
    · cases hx
  · cases hx
theorem Qth (t : Int) (s : Nat) : ∀ l : List feed_run, (l.flatMap (pd t s)).sum = XI l t s
  | [] => rfl
  | r :: l => by
    rw [List.flatMap_cons, List.sum_append, Qth t s l, QJx]
    simp [XI]
theorem Qlz (t : Int) (s : Nat) : ∀ l : List feed_run, (l.flatMap (pd t s)).length ≤ l.length
  | [] => by simp
  | r :: l => by
    rw [List.flatMap_cons, List.length_append]
    have := Qlz t s l
    have := QJv t s r
    rw [List.length_cons]; omega
theorem QKm {n : FeedNet} (hn : n.Trains.length < 1000) {l : List FeedDeparture} (hl : l.length ≤ 8) {m : Nat} (h0 : ∀ d ∈ l, 0 ≤ Yf n d.Train) (h : ∀ d ∈ l, ZE m (Q8 n d)) {t : Int} (ht : 0 ≤ t) (ht2 : t ≤ 100000) (s : Nat) :
    Qel n l (s : Int) t = some (XI (l.map (Q8 n)) t s) := by
  have key : loop (Qhy l n (s : Int) t) (([] : List Int), 0) = some ((l.map (Q8 n)).flatMap (pd t s)) :=
    ZN (fun k => (((l.take k).map (Q8 n)).flatMap (pd t s), (k : Int))) l.length (fun k hk => by
      have hd := List.getElem_mem hk
      obtain ⟨T, h1, h2, h3⟩ := Qfa (h0 _ hd)
      have hr := h _ hd
      have hrun : Q8 n l[k] = feed_run.mk T l[k].At := by unfold Q8; rw [h1]; rfl
      obtain ⟨r1, r2, r3, r4⟩ := hr
      rw [hrun] at r1 r2 r3 r4
      have hidx : idx n.Trains (Yf n l[k].Train) = some T := by unfold idx; rw [if_pos (h0 _ hd)]; exact h1
      have hlen := Qlz t s ((l.take k).map (Q8 n))
      have hnext : ((l.take k).map (Q8 n)).flatMap (pd t s) ++ pd t s (Q8 n l[k]) = ((l.take (k + 1)).map (Q8 n)).flatMap (pd t s) := by
        rw [← Qir l (Q8 n) k hk, List.flatMap_append]; simp
      have hlk : ((l.take k).map (Q8 n)).length ≤ 8 := by simp; omega
      unfold Qhy
      simp only [XW hk, cond_true, XD hk, Qz]
      rw [Qhh n _ (by omega), Qz, hidx, Qz, Qz]
      simp only []
      simp only at r2 r3 r4
      rw [Ya (x := t - l[k].At) (by omega), Ya (x := (T.Steps.length : Int) - 1) (by omega), Qat, Qz, XY k (by omega), ← hnext, hrun]
      unfold pd
      by_cases hin : 0 ≤ t - l[k].At ∧ t - l[k].At ≤ (T.Steps.length : Int) - 1
      · have hk2 : (t - l[k].At).toNat < T.Steps.length := by omega
        have hi2 : idx T.Steps (t - l[k].At) = some T.Steps[(t - l[k].At).toNat] := by unfold idx; rw [if_pos hin.1, List.getElem?_eq_getElem hk2]
        rw [decide_eq_true hin.1, decide_eq_true hin.2, if_pos hin, List.getElem?_eq_getElem hk2]
        simp only [Bool.and_self, cond_true, Bool.true_and, hi2, Qz]
        by_cases hsec : T.Steps[(t - l[k].At).toNat].Section = (s : Int)
        · rw [decide_eq_true hsec, if_pos hsec, cond_true, ZH (by show (((l.take k).map (Q8 n)).flatMap (pd t s)).length + 1 ≤ 1073741824; omega), Qz]
        · rw [decide_eq_false hsec, if_neg hsec, cond_false, List.append_nil]
      · have e : (decide (0 ≤ t - l[k].At) && decide (t - l[k].At ≤ (T.Steps.length : Int) - 1)) = false := by
          rw [Bool.eq_false_iff]; intro e; simp only [Bool.and_eq_true, decide_eq_true_eq] at e; exact hin e
        rw [e, if_neg hin]
        simp only [cond_false, Qz, Bool.false_and, List.append_nil]) (by
      unfold Qhy
      simp only [XX, cond_false, List.take_length])
  unfold Qel Qne
  rw [key, Qz, Qz, QNp (c := 20000) (by omega) (by omega) (fun x hx => ?_) (by have := Qlz t s (l.map (Q8 n)); rw [List.length_map] at this; omega), Qz, Qth]
  obtain ⟨r, hr, hx⟩ := List.mem_flatMap.1 hx
  obtain ⟨d, hd, rfl⟩ := List.mem_map.1 hr
  exact QJw (h d hd) t s x hx
end Go.Gw

end
section
set_option maxRecDepth 4096
namespace Go.Gw
open Go
theorem Qpv {α : Type} [DecidableEq α] : ∀ (a b : List α) (hl : a.length = b.length) (k : Nat), (jn0 (XS (fun (x : α × α) => !decide (x.1 = x.2)) (fun _ _ => false) k (a.zip b)) fun (_ : Unit) => some true) = some (decide (a = b))
  | [], [], _, k => by simp [XS, jn0]
  | [], _ :: _, hl, _ => by simp at hl
  | _ :: _, [], hl, _ => by simp at hl
  | x :: a, y :: b, hl, k => by
    by_cases hxy : x = y
    · subst hxy
      have := Qpv a b (by simpa using hl) (k + 1)
      simp only [List.zip_cons_cons, XS]
      simpa using this
    · simp [XS, hxy, jn0]
theorem Qyw {α : Type} {a b : List α} (hl : a.length = b.length) : (a.zip b).length = a.length := by simp [hl]
noncomputable def Qpp (f : Frac) : Int := if 0 < f.Den ∧ Qot f.Num f.Den = some 1 then (if -1000000000 ≤ f.Num ∧ f.Num ≤ 1000000000 ∧ f.Den ≤ 1000000000 then 0 else 2) else 3
noncomputable def QAp : List Frac → Int
  | [] => 0
  | f :: l => if Qpp f = 0 then QAp l else Qpp f
end Go.Gw

end
section
set_option maxRecDepth 4096
namespace Go.Gw
open Go
def Y0 (n : FeedNet) (l : List FeedDeparture) : Int := if 6 < l.length then 8 else match X0 (YG n l) l.length with | some i => YG n l i | none => 0
def YM (n : FeedNet) (l : List FeedDeparture) : Int := if (ZQ n).2 ≠ 0 then (ZQ n).2 else Y0 n l
def QQk (n : FeedNet) (s : Int) : Int := if 0 ≤ s ∧ s ≤ (n.Sections.length : Int) - 1 then 0 else 6
def QQm (t : Int) : Int := if 0 ≤ t ∧ t ≤ 1012 then 0 else 2
theorem Qyk (a b : Prop) [Decidable a] [Decidable b] : (decide a && decide b) = decide (a ∧ b) := (Bool.decide_and a b).symm
theorem Qvc {n : FeedNet} (h : NetS n) (l : List FeedDeparture) : JV n l = some (⟨n⟩, (if YM n l = 0 then l.map (Q8 n) else []), YM n l) := by
  unfold JV Qdp YM
  rw [QBi h, Qz, Qz]
  by_cases h0 : (ZQ n).2 = 0
  · simp only [h0, ne_eq, not_true_eq_false, if_false, decide_true, Bool.not_true, cond_false]
    rw [show feed_net.mk (FeedNet.mk n.Stations n.Sections n.Trains) = feed_net.mk n from rfl, Qpz n l h.tr, Qz]
    unfold Y0
    by_cases h6 : 6 < l.length
    · simp [h6]
    · rw [if_neg h6, if_neg h6]
      rcases Qac (YG n l) l.length with ⟨e, _⟩ | ⟨i, e, _, hi, _⟩
      · rw [e]; simp
      · rw [e]; simp [hi]
  · simp [h0]
theorem QKd {n : FeedNet} (h : NetS n) (l : List FeedDeparture) : Qhj n l = some (YM n l) := by
  unfold Qhj Qmz YM Y0
  rw [QKe h, Qz]
  by_cases h0 : (ZQ n).2 = 0
  · simp only [h0, ne_eq, not_true_eq_false, if_false, decide_true, Bool.not_true, cond_false, Qz]
    rw [Qvm n l h.tr, Qz]
    by_cases h6 : 6 < l.length
    · rw [if_pos h6, if_pos h6]
    · rw [if_neg h6, if_neg h6]
      cases X0 (YG n l) l.length <;> rfl
  · simp [h0]
theorem QGb (a b : Int) : Zj [a, b] = if a ≠ 0 then a else b := by
  unfold Zj Zj Zj; by_cases h : a = 0 <;> by_cases h2 : b = 0 <;> simp [h, h2]
theorem Qjz {n : FeedNet} {l : List FeedDeparture} (h : YM n l = 0) : NetOk n ∧ l.length ≤ 6 ∧ ∀ d ∈ l, ZE n.Sections.length (Q8 n d) ∧ 0 ≤ Yf n d.Train := by
  unfold YM at h
  by_cases h0 : (ZQ n).2 = 0
  · have hn := QHh h0
    simp only [h0, ne_eq, not_true_eq_false, if_false] at h
    unfold Y0 at h
    by_cases h6 : 6 < l.length
    · rw [if_pos h6] at h; omega
    · rw [if_neg h6] at h
      refine ⟨hn, by omega, fun d hd => ?_⟩
      obtain ⟨k, hk, rfl⟩ := List.getElem_of_mem hd
      have hz := Qtf h k hk
      unfold YG at hz
      rw [List.getElem?_eq_getElem hk] at hz
      exact ⟨QLm hn hz, Qkg hz⟩
  · rw [if_pos h0] at h; exact absurd h h0
end Go.Gw

end
section
set_option maxRecDepth 4096
namespace Go.Gw
open Go
def QQl (n : FeedNet) (s : Int) : Int := if 0 ≤ s ∧ s ≤ (n.Stations.length : Int) - 1 then 0 else 6
def onI (r : feed_run) (t : Int) : Bool := decide (0 ≤ t - r.at_) && decide (t - r.at_ ≤ (r.FeedTrain.Steps.length : Int) - 1)
def Qmj (n : FeedNet) (l : List FeedDeparture) (t : Int) (s : Nat) : Int := Y9 n.Sections (XI (l.map (Q8 n)) t) s n.Sections.length
structure Rt (n : FeedNet) (l : List FeedDeparture) : Prop where
  ne : NetOk n
  tr : n.Trains.length < 1000
  l6 : l.length ≤ 6
  ru : ∀ d ∈ l, ZE n.Sections.length (Q8 n d) ∧ 0 ≤ Yf n d.Train
theorem Qnh {n : FeedNet} (h : NetS n) {l : List FeedDeparture} (hb : YM n l = 0) : Rt n l := ⟨(Qjz hb).1, h.tr, (Qjz hb).2.1, (Qjz hb).2.2⟩
section
variable {n : FeedNet} {l : List FeedDeparture} (h : Rt n l)
include h
theorem Qeo : ∀ r ∈ l.map (Q8 n), ZE n.Sections.length r := fun r hr => by obtain ⟨d, hd2, rfl⟩ := List.mem_map.1 hr; exact (h.ru d hd2).1
theorem QKi {t : Int} (ht : 0 ≤ t) (ht2 : t ≤ 100000) : Qek n l t = some (YV n (XI (l.map (Q8 n)) t)) :=
  QKj h.ne (fun j => by have := Qmx (Qeo h) t j; rw [List.length_map] at this; have := h.l6; omega) (fun j _ => QKm h.tr (by have := h.l6; omega) (fun d hd => (h.ru d hd).2) (fun d hd => (h.ru d hd).1) ht ht2 j)
def pkF (n : FeedNet) (l : List FeedDeparture) (s : Nat) (k : Nat) (a : Int × Int) : Int × Int := if a.2 < Qmj n l ((k : Int) + 1) s then ((k : Int) + 1, Qmj n l ((k : Int) + 1) s) else a
def QQi (n : FeedNet) (l : List FeedDeparture) (s : Nat) : Int × Int := rng (pkF n l s) (0, Qmj n l 0 s) 1012
end
end Go.Gw

end
section
set_option maxRecDepth 4096
namespace Go.Gw
open Go
def fsO {α ρ μ : Type} (o : Option α) (res : α → ρ) (u : μ) : ρ ⊕ μ := match o with | some a => .inl (res a) | none => .inr u
theorem Qgy {α σ ρ μ : Type} {step : σ → Option (σ ⊕ (ρ ⊕ μ))} (S : Nat → σ) (n : Nat) (f : Nat → Option α) (res : α → ρ) (o : μ)
    (hs : ∀ k, k < n → step (S k) = some (match f k with | some a => .inr (.inl (res a)) | none => .inl (S (k + 1))))
    (he : step (S n) = some (.inr (.inr o))) : loop step (S 0) = some (fsO ((List.range n).findSome? f) res o) := by
  have key : ∀ j k, k + j = n → loop step (S k) = some (fsO ((List.range' k j).findSome? f) res o) := by
    intro j
    induction j with
    | zero => intro k hk; obtain rfl : k = n := by omega
              exact Qcd he
    | succ j ih =>
      intro k hk
      have h1 := hs k (by omega)
      rw [List.range'_succ, List.findSome?_cons]
      cases hf : f k with
      | some a => rw [hf] at h1; exact Qcd h1
      | none => rw [hf] at h1; rw [Qgz h1]; exact ih (k + 1) (by omega)
  rw [List.range_eq_range']
  exact key n 0 (by omega)
theorem Qgp {α β : Type} (f : β → α → β) (a : β) (l : List α) (k : Nat) (hk : k < l.length) : (l.take (k + 1)).foldl f a = f ((l.take k).foldl f a) l[k] := by
  rw [List.take_add_one, List.getElem?_eq_getElem hk, List.foldl_append]; rfl
def loF (a : Int) (r : feed_run) : Int := if r.at_ < a then r.at_ else a
def hiF (a : Int) (r : feed_run) : Int := if a < r.at_ + 12 then r.at_ + 12 else a
def YH (rs : List feed_run) : Int := rs.foldl loF 1012
def Zs (rs : List feed_run) : Int := rs.foldl hiF 0
def Qdz (n : FeedNet) (k : Nat) : Int := (n.Stations[k]?.map (·.Limit)).getD 0
def ldR (n : FeedNet) (rs : List feed_run) (t : Int) (k : Nat) : Int := Y9 n.Sections (XI rs t) k n.Sections.length
def ov1 (n : FeedNet) (rs : List feed_run) (t : Int) (k : Nat) : Option FeedPeak := if 1000000 * Qdz n k < ldR n rs t k then some (FeedPeak.mk t k (ldR n rs t k)) else none
def ZS (n : FeedNet) (rs : List feed_run) (t : Int) : Option FeedPeak := (List.range n.Stations.length).findSome? (ov1 n rs t)
def Jb (n : FeedNet) (rs : List feed_run) : Option FeedPeak := (List.range (Zs rs - YH rs + 1).toNat).findSome? fun (j : Nat) => ZS n rs (YH rs + j)
def JH (o : Option FeedPeak) : FeedPeak × Bool := match o with | some p => (p, true) | none => (FeedPeak.mk 0 0 0, false)
theorem Qty {rs : List feed_run} (h : ∀ r ∈ rs, 0 ≤ r.at_ ∧ r.at_ ≤ 1000) : 0 ≤ YH rs ∧ YH rs ≤ 1012 := by
  have key : ∀ (l : List feed_run) a, (∀ r ∈ l, 0 ≤ r.at_ ∧ r.at_ ≤ 1000) → 0 ≤ a ∧ a ≤ 1012 → 0 ≤ l.foldl loF a ∧ l.foldl loF a ≤ 1012 := by
    intro l
    induction l with
    | nil => intro a _ h; exact h
    | cons r l ih =>
      intro a hr ha
      have := hr r (List.mem_cons_self ..)
      exact ih _ (fun x hx => hr x (List.mem_cons_of_mem _ hx)) (by unfold loF; split <;> omega)
  exact key rs 1012 h (by omega)
theorem Qtk {rs : List feed_run} (h : ∀ r ∈ rs, 0 ≤ r.at_ ∧ r.at_ ≤ 1000) : 0 ≤ Zs rs ∧ Zs rs ≤ 1012 := by
  have key : ∀ (l : List feed_run) a, (∀ r ∈ l, 0 ≤ r.at_ ∧ r.at_ ≤ 1000) → 0 ≤ a ∧ a ≤ 1012 → 0 ≤ l.foldl hiF a ∧ l.foldl hiF a ≤ 1012 := by
    intro l
    induction l with
    | nil => intro a _ h; exact h
    | cons r l ih =>
      intro a hr ha
      have := hr r (List.mem_cons_self ..)
      exact ih _ (fun x hx => hr x (List.mem_cons_of_mem _ hx)) (by unfold hiF; split <;> omega)
  exact key rs 0 h (by omega)
theorem Qpn (x y : Int) : Qaa x y = some (if x < y then -1 else if y < x then 1 else 0) := by
  unfold Qaa Qdc
  simp only [decide_true, Bool.not_true, Qz, cond_false]
  by_cases h1 : x < y
  · simp [h1]
  · by_cases h2 : y < x <;> simp [h1, h2]
def mnF (a r : feed_run) : feed_run := if r.at_ < a.at_ then r else a
def Jo (a r : feed_run) : feed_run := if a.at_ < r.at_ then r else a
def JB (r : feed_run) : ByteArray × Int × Int × List FeedStep × Int := (r.FeedTrain.Name, r.FeedTrain.Earliest, r.FeedTrain.Latest, r.FeedTrain.Steps, r.at_)
theorem QHb (r0 : feed_run) (l : List feed_run) (hl : l.length < 1000000) : Qew (r0 :: l) = some (l.foldl mnF r0) := by
  have key : loop (Qev (r0 :: l)) (1, JB r0) = some (JB (l.foldl mnF r0)) :=
    ZN (fun k => ((k : Int) + 1, JB ((l.take k).foldl mnF r0))) l.length (fun k hk => by
      unfold Qev Qbr JB
      have hi : idx (r0 :: l) ((k : Int) + 1) = some l[k] := by
        rw [show (k : Int) + 1 = ((k + 1 : Nat) : Int) by omega, XD (show k + 1 < (r0 :: l).length by simpa using hk)]; rfl
      simp only [hi, Qz, Qpn, Qgp _ _ _ _ hk]
      rw [decide_eq_true (by simp; omega), cond_true, Ya (x := (k : Int) + 1 + 1) (by omega)]
      generalize List.foldl mnF r0 (List.take k l) = a
      unfold mnF
      by_cases h1 : l[k].at_ < a.at_
      · simp [h1]
      · by_cases h2 : a.at_ < l[k].at_ <;> simp [h1, h2]) (by
      unfold Qev
      rw [List.take_length]
      unfold JB
      simp)
  unfold Qew
  rw [decide_eq_false (show ¬ (((r0 :: l).length : Nat) : Int) < 1 by simp; omega), cond_false, Qz, show idx (r0 :: l) 0 = some r0 from rfl, Qz]
  exact (congrArg (fun o => Option.bind o _) key).trans rfl
theorem QGw (r0 : feed_run) (l : List feed_run) (hl : l.length < 1000000) : Qeu (r0 :: l) = some (l.foldl Jo r0) := by
  have key : loop (Qet (r0 :: l)) (1, JB r0) = some (JB (l.foldl Jo r0)) :=
    ZN (fun k => ((k : Int) + 1, JB ((l.take k).foldl Jo r0))) l.length (fun k hk => by
      unfold Qet Qbr JB
      have hi : idx (r0 :: l) ((k : Int) + 1) = some l[k] := by
        rw [show (k : Int) + 1 = ((k + 1 : Nat) : Int) by omega, XD (show k + 1 < (r0 :: l).length by simpa using hk)]; rfl
      simp only [hi, Qz, Qpn, Qgp _ _ _ _ hk]
      rw [decide_eq_true (by simp; omega), cond_true, Ya (x := (k : Int) + 1 + 1) (by omega)]
      generalize List.foldl Jo r0 (List.take k l) = a
      unfold Jo
      by_cases h1 : l[k].at_ < a.at_
      · have h2 : ¬ a.at_ < l[k].at_ := by omega
        simp [h1, h2]
      · by_cases h2 : a.at_ < l[k].at_ <;> simp [h1, h2]) (by
      unfold Qet
      rw [List.take_length]
      unfold JB
      simp)
  unfold Qeu
  rw [decide_eq_false (show ¬ (((r0 :: l).length : Nat) : Int) < 1 by simp; omega), cond_false, Qz, show idx (r0 :: l) 0 = some r0 from rfl, Qz]
  exact (congrArg (fun o => Option.bind o _) key).trans rfl
theorem QHd (r0 : feed_run) (l : List feed_run) : (l.foldl mnF r0).at_ = l.foldl loF r0.at_ := by
  induction l generalizing r0 with
  | nil => rfl
  | cons r l ih => rw [List.foldl_cons, List.foldl_cons, ih]; congr 1; unfold mnF loF; split <;> rfl
theorem QHe (r0 : feed_run) (l : List feed_run) : (l.foldl Jo r0).at_ + 12 = l.foldl hiF (r0.at_ + 12) := by
  induction l generalizing r0 with
  | nil => rfl
  | cons r l ih => rw [List.foldl_cons, List.foldl_cons, ih]; congr 1; unfold Jo hiF; split <;> split <;> first | rfl | omega
section
variable {n : FeedNet} {rs : List feed_run} (hn : NetOk n) (hl : rs.length ≤ 8) (h : ∀ r ∈ rs, ZE n.Sections.length r)
include hn
theorem Qtx {k : Nat} (hk : k < n.Stations.length) : w64 (1000000 * n.Stations[k].Limit) = 1000000 * Qdz n k := by
  have := hn.lim _ (List.getElem_mem hk)
  unfold Qdz
  rw [Ya (by omega), List.getElem?_eq_getElem hk]; rfl
include hl h
theorem QBn {t : Int} (ht : 0 ≤ t) (ht2 : t ≤ 1012) {R : feed_run} (hR : t ≤ R.at_ + 12) (hR2 : R.at_ ≤ 100000) (hR3 : -100000 ≤ R.at_): Qbt rs ⟨n⟩ R t = some (match ZS n rs t with | some p => .inr (.inl (p, true)) | none => .inl (t + 1)) := by
  have hlen : ((YV n (XI rs t)).length : Int) = (n.Stations.length : Int) := by unfold YV; simp
  have hst := hn.st6
  have key : loop (Qbs ⟨n⟩ (YV n (XI rs t)) t) 0 = some (fsO (ZS n rs t) (fun p => .inr (.inl (p, true))) ()) :=
    Qgy (ρ := Int ⊕ ((FeedPeak × Bool) ⊕ Unit)) (step := Qbs ⟨n⟩ (YV n (XI rs t)) t) (fun k => (k : Int)) n.Stations.length (ov1 n rs t) (fun p => .inr (.inl (p, true))) () (fun k hk => by
      have hi : idx (YV n (XI rs t)) (k : Int) = some (ldR n rs t k) := by
        unfold YV; rw [XD?, List.getElem?_map, List.getElem?_range hk]; rfl
      unfold Qbs ov1
      rw [hlen, XW hk, cond_true, hi, Qz]
      simp only [XD hk, Qz]
      rw [Qtx hn hk, XY k (by omega)]
      by_cases hc : 1000000 * Qdz n k < ldR n rs t k
      · rw [decide_eq_true hc, if_pos hc]; rfl
      · rw [decide_eq_false hc, if_neg hc]; rfl) (by
      unfold Qbs
      rw [hlen, XX]; rfl)
  unfold Qbt
  rw [Ya (x := R.at_ + 12) (by omega), decide_eq_true hR, cond_true, QBm hn hl h ht (by omega), Qz, key, Qz, Ya (x := t + 1) (by omega)]
  cases ZS n rs t <;> rfl
theorem Qpy : Jz ⟨n⟩ rs = some (JH (Jb n rs)) := by
  cases rs with
  | nil => simp [Jz, Jb, Zs, YH, JH]
  | cons r0 l =>
    have hat : ∀ r ∈ r0 :: l, 0 ≤ r.at_ ∧ r.at_ ≤ 1000 := fun r hr => ⟨(h r hr).2.2.1, (h r hr).2.2.2⟩
    have h0 := hat r0 (List.mem_cons_self ..)
    have hlo : (l.foldl mnF r0).at_ = YH (r0 :: l) := by
      rw [QHd]; unfold YH; rw [List.foldl_cons]; congr 1; unfold loF; split <;> omega
    have hhi : (l.foldl Jo r0).at_ + 12 = Zs (r0 :: l) := by
      rw [QHe]; unfold Zs; rw [List.foldl_cons]; congr 1; unfold hiF; split <;> omega
    have b1 := Qty hat
    have b2 := Qtk hat
    have hlen : l.length < 1000000 := by rw [List.length_cons] at hl; omega
    have key := Qgy (step := Qbt (r0 :: l) ⟨n⟩ (l.foldl Jo r0)) (fun k => YH (r0 :: l) + (k : Int)) (Zs (r0 :: l) - YH (r0 :: l) + 1).toNat (fun (j : Nat) => ZS n (r0 :: l) (YH (r0 :: l) + j)) (fun p => (p, true)) () (fun k hk => by
      have hk2 : YH (r0 :: l) + (k : Int) ≤ Zs (r0 :: l) := by omega
      rw [QBn hn hl h (R := l.foldl Jo r0) (by omega) (by omega) (by omega) (by omega) (by omega)]
      cases ZS n (r0 :: l) (YH (r0 :: l) + (k : Int)) with
      | some p => rfl
      | none => simp only; congr 2; omega) (by
      unfold Qbt
      rw [Ya (x := (l.foldl Jo r0).at_ + 12) (by omega), decide_eq_false (by omega)]; rfl)
    unfold Jz
    rw [decide_eq_false (show ¬ ((((r0 :: l).length : Nat) : Int) = 0) by simp; omega), cond_false, QHb r0 l hlen, Qz, QGw r0 l hlen, Qz, hlo]
    simp only [Int.natCast_zero, Int.add_zero] at key
    rw [key, Qz]
    unfold Jb
    cases (List.range (Zs (r0 :: l) - YH (r0 :: l) + 1).toNat).findSome? (fun (j : Nat) => ZS n (r0 :: l) (YH (r0 :: l) + j)) <;> rfl
end
section
variable {n : FeedNet} {l : List FeedDeparture} (h : Rt n l)
include h
theorem QKk {t hi : Int} (ht : 0 ≤ t) (ht2 : t ≤ 1012) (hh : t ≤ hi) : Qei n l hi t = some (match ZS n (l.map (Q8 n)) t with | some p => .inr (.inl (p, true)) | none => .inl (t + 1)) := by
  have hlen : ((YV n (XI (l.map (Q8 n)) t)).length : Int) = (n.Stations.length : Int) := by unfold YV; simp
  have hst := h.ne.st6
  have key : loop (Qeh n (YV n (XI (l.map (Q8 n)) t)) t) 0 = some (fsO (ZS n (l.map (Q8 n)) t) (fun p => .inr (.inl (p, true))) ()) :=
    Qgy (ρ := Int ⊕ ((FeedPeak × Bool) ⊕ Unit)) (step := Qeh n (YV n (XI (l.map (Q8 n)) t)) t) (fun k => (k : Int)) n.Stations.length (ov1 n (l.map (Q8 n)) t) (fun p => .inr (.inl (p, true))) () (fun k hk => by
      have hi : idx (YV n (XI (l.map (Q8 n)) t)) (k : Int) = some (ldR n (l.map (Q8 n)) t k) := by
        unfold YV; rw [XD?, List.getElem?_map, List.getElem?_range hk]; rfl
      unfold Qeh ov1
      rw [hlen, XW hk, cond_true, hi, Qz]
      simp only [XD hk, Qz]
      rw [Qtx h.ne hk, XY k (by omega)]
      by_cases hc : 1000000 * Qdz n k < ldR n (l.map (Q8 n)) t k
      · rw [decide_eq_true hc, if_pos hc]; rfl
      · rw [decide_eq_false hc, if_neg hc]; rfl) (by
      unfold Qeh
      rw [hlen, XX]; rfl)
  unfold Qei
  rw [decide_eq_true hh, cond_true, QKi h ht (by omega), Qz, key, Qz, Ya (x := t + 1) (by omega)]
  cases ZS n (l.map (Q8 n)) t <;> rfl
theorem QKl : Qhu n l = some (JH (Jb n (l.map (Q8 n)))) := by
  have hat : ∀ r ∈ l.map (Q8 n), 0 ≤ r.at_ ∧ r.at_ ≤ 1000 := fun r hr => ⟨(Qeo h r hr).2.2.1, (Qeo h r hr).2.2.2⟩
  have hl := h.l6
  have first : loop (Qht l) (1012, 0, 0) = some (YH (l.map (Q8 n)), Zs (l.map (Q8 n))) :=
    ZN (fun k => (((l.map (Q8 n)).take k).foldl loF 1012, ((l.map (Q8 n)).take k).foldl hiF 0, (k : Int))) l.length (fun k hk => by
      have hd := hat (Q8 n l[k]) (List.mem_map.2 ⟨_, List.getElem_mem hk, rfl⟩)
      have e : (Q8 n l[k]).at_ = l[k].At := rfl
      rw [e] at hd
      unfold Qht
      simp only [XW hk, cond_true, XD hk, Qz]
      rw [Qgp _ _ _ _ (by simpa using hk), Qgp _ _ _ _ (by simpa using hk), Ya (x := l[k].At + 12) (by omega), XY k (by omega)]
      simp only [List.getElem_map]
      rfl) (by
      unfold Qht
      simp only [XX, cond_false, YH, Zs]
      rw [List.take_of_length_le (by simp)])
  have b1 := Qty hat
  have b2 := Qtk hat
  have key := Qgy (step := Qei n l (Zs (l.map (Q8 n)))) (fun k => YH (l.map (Q8 n)) + (k : Int)) (Zs (l.map (Q8 n)) - YH (l.map (Q8 n)) + 1).toNat (fun (j : Nat) => ZS n (l.map (Q8 n)) (YH (l.map (Q8 n)) + j)) (fun p => (p, true)) () (fun k hk => by
    rw [QKk h (by omega) (by omega) (by omega)]
    cases ZS n (l.map (Q8 n)) (YH (l.map (Q8 n)) + (k : Int)) with
    | some p => rfl
    | none => simp only; congr 2; omega) (by
    unfold Qei
    rw [decide_eq_false (by omega)]; rfl)
  unfold Qhu
  rw [first, Qz]
  simp only [Int.natCast_zero, Int.add_zero] at key ⊢
  rw [key, Qz]
  unfold Jb
  cases (List.range (Zs (l.map (Q8 n)) - YH (l.map (Q8 n)) + 1).toNat).findSome? (fun (j : Nat) => ZS n (l.map (Q8 n)) (YH (l.map (Q8 n)) + j)) <;> rfl
end
theorem QLs (a b : List FeedDeparture) (ha : a.length < 1000000) : Qba a b = some (decide (a = b)) := by
  unfold Qba
  by_cases hl : a.length = b.length
  · rw [decide_eq_true (by omega), Bool.not_true, cond_false, ZO (a.zip b) (fun x => !decide (x.1 = x.2)) (fun _ _ => false), Qz, Qpv a b hl]
    · intro k hk
      rw [Qyw hl] at hk
      unfold Qhw
      rw [XW hk, cond_true, XD hk, Qz, XD (show k < b.length by omega), Qz, XY k (by omega)]
      simp only [List.getElem_zip]
    · rw [Qyw hl]
      unfold Qhw
      rw [XX]; rfl
  · rw [decide_eq_false (by omega)]
    simp only [Bool.not_false, cond_true]
    rw [decide_eq_false]
    intro e; exact hl (by rw [e])
theorem Qyy {n : FeedNet} (h : NetS n) (l : List FeedDeparture) : Qgh n l = some (if YM n l ≠ 0 then (FeedPeak.mk 0 0 0, YM n l) else ((JH (Jb n (l.map (Q8 n)))).1, bif (JH (Jb n (l.map (Q8 n)))).2 then 0 else 12)) := by
  unfold Qgh
  rw [Qvc h, Qz]
  by_cases hb : YM n l = 0
  · have hR := Qnh h hb
    simp only [hb, ne_eq, not_true_eq_false, if_false, if_true, decide_true, Bool.not_true, cond_false]
    rw [show feed_net.mk (FeedNet.mk n.Stations n.Sections n.Trains) = feed_net.mk n from rfl, Qpy hR.ne (by rw [List.length_map]; have := hR.l6; omega) (Qeo hR), Qz, Jf, Qz]
  · simp [hb]
end Go.Gw

end
