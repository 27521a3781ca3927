/- Laws of the walk. Condition: each theorem says its own. -/
import Derived.Test.YtbplgfhjpeeieaaGwTwin
import Derived.Test.YtbplgfhjpeeieaaGwPlan
import Derived.IntWalk
set_option linter.unusedVariables false
set_option linter.unusedSimpArgs false
set_option linter.unusedSectionVars false
section
set_option maxRecDepth 1000000
namespace Go.Gw
open Go
theorem Qyv : Qta 60 = some true := by decide +kernel
theorem Qyu : Qgf = some true := QGb _ Qyv
end Go.Gw

end
section
set_option linter.unusedSectionVars false
namespace Go.Gw
open Go

theorem Yr {x : Int} (h : -9223372036854775808 ≤ x ∧ x ≤ 9223372036854775807) : w64 x = x := Go.IntWalk.i64_in x h

def Runs {α : Type} (e : Option α) (Q : α → Prop) : Prop := ∃ a, e = some a ∧ Q a

section
variable {α β σ μ : Type} {Q : α → Prop} {e e' : Option α}
theorem Runs.some {a : α} (h : Q a) : Runs (some a) Q := ⟨a, rfl, h⟩
theorem Runs.bind {e : Option β} {f : β → Option α} (h : Runs e fun b => Runs (f b) Q) : Runs (e.bind f) Q := by
  obtain ⟨b, rfl, a, ha, hq⟩ := h; exact ⟨a, ha, hq⟩
theorem Runs.mono {Q' : α → Prop} (h : Runs e Q) (hm : ∀ a, Q a → Q' a) : Runs e Q' := by obtain ⟨a, ha, hq⟩ := h; exact ⟨a, ha, hm _ hq⟩
theorem Runs.eq {a : α} (h : Runs e (· = a)) : e = .some a := by obtain ⟨b, hb, rfl⟩ := h; exact hb
theorem Runs.call {e : Option β} {f : β → Option α} {b : β} (h : e = .some b) (hq : Runs (f b) Q) : Runs (e.bind f) Q := by subst h; exact hq
theorem Runs.bif {b : Bool} (ht : b = true → Runs e Q) (hf : b = false → Runs e' Q) : Runs (bif b then e else e') Q := by
  cases b
  · exact hf rfl
  · exact ht rfl
theorem Runs.jl {b : α} {f : μ → Option α} (h : Q b) : Runs (jn0 (.inl b) f) Q := ⟨b, rfl, h⟩
theorem Runs.j {o : α ⊕ μ} {f : μ → Option α} (hl : ∀ b, o = .inl b → Q b) (hr : ∀ m, o = .inr m → Runs (f m) Q) : Runs (jn0 o f) Q := by
  cases o with
  | inl b => exact Runs.jl (hl b rfl)
  | inr m => exact hr m rfl

def Rnd (I : σ → Prop) (m : σ → Nat) (Q : β → Prop) (s : σ) : σ ⊕ β → Prop
  | .inl s' => I s' ∧ m s' < m s
  | .inr o => Q o
theorem Runs.loop {step : σ → Option (σ ⊕ β)} {s : σ} {Q : β → Prop} (I : σ → Prop) (m : σ → Nat) (h0 : I s) (h : ∀ s, I s → Runs (step s) (Rnd I m Q s)) : Runs (Gw.loop step s) Q := by
  generalize hk : m s = k
  induction k using Nat.strongRecOn generalizing s with
  | _ k ih =>
    obtain ⟨x, hx, hq⟩ := h s h0
    cases x with
    | inl s' =>
      rw [Qlt hx]
      exact ih (m s') (by have := hq.2; omega) hq.1 rfl
    | inr o => rw [Qgi hx]; exact ⟨o, rfl, hq⟩
theorem Je {step : σ → Option (σ ⊕ β)} {o : β} (S : Nat → σ) (n : Nat) (h : ∀ k, k < n → step (S k) = .some (.inl (S (k + 1)))) (he : step (S n) = .some (.inr o)) : Gw.loop step (S 0) = .some o := by
  have key : ∀ j k, j + k = n → Gw.loop step (S k) = .some o := by
    intro j
    induction j with
    | zero => intro k hk; obtain rfl : k = n := by omega
              exact Qgi he
    | succ j ih => intro k hk; rw [Qlt (h k (by omega))]; exact ih (k + 1) (by omega)
  exact key n 0 (by omega)

theorem Runs.idx {xs : List β} {i : Int} {f : β → Option α} (h0 : 0 ≤ i) (h1 : i < xs.length) (h : ∀ x, xs[i.toNat]? = .some x → Runs (f x) Q) : Runs ((Gw.idx xs i).bind f) Q := by
  have hl : i.toNat < xs.length := by omega
  have e : Gw.idx xs i = .some xs[i.toNat] := by unfold Gw.idx; rw [if_pos h0, List.getElem?_eq_getElem hl]
  exact Runs.call e (h _ (List.getElem?_eq_getElem hl))
theorem XI {xs : List β} {k : Nat} (h : k < xs.length) : Gw.idx xs (k : Int) = .some xs[k] := by
  unfold Gw.idx; rw [if_pos (by omega), Int.toNat_natCast, List.getElem?_eq_getElem h]
theorem XI? {xs : List β} {k : Nat} : Gw.idx xs (k : Int) = xs[k]? := by
  unfold Gw.idx; rw [if_pos (by omega), Int.toNat_natCast]
theorem JY {xs ys : List β} (h : xs.length + ys.length ≤ 1073741824) : app xs ys = .some (xs ++ ys) := by unfold app; rw [if_pos h]
end
end Go.Gw

end
section
set_option linter.unusedSectionVars false
namespace Go.Gw
section
variable {α β γ σ ρ : Type}
def XM (p : α → Bool) (res : Nat → α → ρ) : Nat → List α → ρ ⊕ Unit
  | _, [] => .inr ()
  | k, x :: xs => if p x then .inl (res k x) else XM p res (k + 1) xs
theorem ZL {step : Int → Option (Int ⊕ (ρ ⊕ Unit))} (xs : List α) (p : α → Bool) (res : Nat → α → ρ)
    (hs : ∀ k (hk : k < xs.length), step (k : Int) = (bif p xs[k] then some (.inr (.inl (res k xs[k]))) else some (.inl ((k + 1 : Nat) : Int))))
    (he : step (xs.length : Int) = some (.inr (.inr ()))) : loop step 0 = some (XM p res 0 xs) := by
  have key : ∀ j k, j + k = xs.length → loop step (k : Int) = some (XM p res k (xs.drop k)) := by
    intro j
    induction j with
    | zero =>
      intro k hk
      obtain rfl : k = xs.length := by omega
      rw [List.drop_length]
      exact Qgi he
    | succ j ih =>
      intro k hk
      have hlt : k < xs.length := by omega
      rw [List.drop_eq_getElem_cons hlt]
      have := hs k hlt
      cases hp : p xs[k] with
      | true => rw [hp] at this; simp only [XM, hp, if_true]; exact Qgi this
      | false => rw [hp] at this; simp only [XM, hp]; rw [Qlt this]; exact ih (k + 1) (by omega)
  have := key xs.length 0 (by omega)
  simpa using this

def fld (f : Nat → γ → α → γ) : Nat → γ → List α → γ
  | _, a, [] => a
  | k, a, x :: xs => fld f (k + 1) (f k a x) xs
def rng (f : Nat → γ → γ) (a : γ) : Nat → γ
  | 0 => a
  | n + 1 => f n (rng f a n)
theorem X0 (k : Nat) (h : k < 4611686018427387904) : w64 ((k : Int) + 1) = ((k + 1 : Nat) : Int) := by rw [Yr (by omega)]; omega
theorem XW {k n : Nat} (h : k < n) : decide ((k : Int) < (n : Int)) = true := by simp; omega
theorem XX (n : Nat) : decide ((n : Int) < (n : Int)) = false := by simp
end
end Go.Gw

end
section
set_option maxRecDepth 4096
namespace Go.Gw
open Go

def YR : List Int → Int
  | [] => 0
  | x :: xs => if x = 0 then YR xs else x
theorem Jo (l : List Int) (hl : l.length < 1073741824) : Y8 l = some (YR l) := by
  unfold Y8
  rw [ZL l (fun x => !decide (x = 0)) (fun _ x => x)]
  · have key : ∀ (l : List Int) k, (jn0 (XM (fun x => !decide (x = 0)) (fun _ x => x) k l) fun (_ : Unit) => some 0) = some (YR l) := by
      intro l
      induction l with
      | nil => intro k; rfl
      | cons x xs ih =>
        intro k
        by_cases h : x = 0
        · simp [XM, YR, h]; exact ih _
        · simp [XM, YR, h, jn0]
    simpa using key l 0
  · intro k hk
    unfold Qfm
    rw [XW hk, XI hk, X0 k (by omega)]; rfl
  · unfold Qfm
    rw [XX]; rfl
theorem Ji (b : Bool) (e : Int) : X4 b e = some (bif b then 0 else e) := by cases b <;> rfl
theorem JT (n lo hi : Int) : Zs n lo hi = some (decide (lo ≤ n) && decide (n ≤ hi)) := rfl
theorem Qai (n lo hi : Int) : ZF n lo hi = some (decide (lo ≤ n) && decide (n ≤ hi)) := rfl
theorem QMk (n m : Int) (h : 0 ≤ m) (h2 : m ≤ 9223372036854775807) : Qbk n m = some (decide (-m ≤ n) && decide (n ≤ m)) := by
  unfold Qbk
  rw [Yr (by omega), JT, Int.zero_sub]; rfl
theorem Qhv {α : Type} (p : α → Bool) : ∀ (l : List α) (k : Nat), (jn0 (β := Int) (XM p (fun k _ => (k : Int)) k l) fun (_ : Unit) => some (-1)) = some (match XM p (fun k _ => (k : Int)) k l with | .inl i => i | .inr _ => -1)
  | l, k => by cases XM p (fun k _ => (k : Int)) k l <;> rfl
theorem Qnc {α : Type} (p : α → Bool) : ∀ (l : List α) (k : Nat), decide (0 ≤ (match XM p (fun k _ => (k : Int)) k l with | .inl i => i | .inr _ => (-1 : Int))) = l.any p
  | [], k => by simp [XM]
  | x :: xs, k => by
    by_cases h : p x = true
    · simp [XM, h]
    · simp only [XM, h, List.any_cons]
      have := Qnc p xs (k + 1)
      simpa [h] using this
theorem J8 {α ρ : Type} {p : α → Bool} {res : Nat → α → ρ} : ∀ (l : List α) (k : Nat), (XM p res k l = .inr () ∧ l.any p = false) ∨ ∃ j x, XM p res k l = .inl (res j x) ∧ p x = true ∧ l.any p = true
  | [], k => .inl ⟨rfl, rfl⟩
  | x :: xs, k => by
    by_cases h : p x = true
    · exact .inr ⟨k, x, by simp [XM, h], h, by simp [h]⟩
    · rcases J8 xs (k + 1) (p := p) (res := res) with ⟨h1, h2⟩ | ⟨j, y, h1, h2, h3⟩
      · exact .inl ⟨by simp [XM, h, h1], by simp [h, h2]⟩
      · exact .inr ⟨j, y, by simp [XM, h, h1], h2, by simp [h3]⟩
/-! ### Ladders -/
def QFx (l : FeedLadder) : Bool := (l.Ohms.any fun n => !(decide (1 ≤ n) && decide (n ≤ 500))) || (l.Loads.any fun n => !(decide (-20000 ≤ n) && decide (n ≤ 20000)))
def QPd (l : FeedLadder) : Int := if ¬ (0 < l.Loads.length ∧ l.Ohms.length = l.Loads.length + 1) then 10 else if 8 < l.Loads.length then 8 else if QFx l then 2 else 0
end Go.Gw

end
section
set_option maxRecDepth 4096
namespace Go.Gw
open Go
def XH (f : Nat → Int) (n : Nat) : Option Nat := (List.range n).find? fun i => decide (f i ≠ 0)
theorem Jb (f : Nat → Int) (n : Nat) : (XH f n = none ∧ ∀ j, j < n → f j = 0) ∨ ∃ i, XH f n = some i ∧ i < n ∧ f i ≠ 0 ∧ ∀ j, j < i → f j = 0 := by
  cases h : XH f n with
  | none =>
    refine .inl ⟨rfl, fun j hj => ?_⟩
    have := List.find?_eq_none.1 h j (List.mem_range.2 hj)
    simpa using this
  | some i =>
    right
    obtain ⟨h1, h2, h3⟩ := List.find?_range_eq_some.1 h
    exact ⟨i, rfl, List.mem_range.1 h2, by simpa using h1, fun j hj => by have := h3 j hj; simpa using this⟩
theorem Jq {σ ρ μ : Type} {step : σ → Option (σ ⊕ (ρ ⊕ μ))} (S : Nat → σ) (n : Nat) (f : Nat → Int) (res : Nat → Int → ρ) (o : μ)
    (hs : ∀ k, k < n → (∀ j, j < k → f j = 0) → step (S k) = if f k = 0 then some (.inl (S (k + 1))) else some (.inr (.inl (res k (f k))))) (he : (∀ j, j < n → f j = 0) → step (S n) = some (.inr (.inr o))) :
    loop step (S 0) = some (match XH f n with | some i => .inl (res i (f i)) | none => .inr o) := by
  rcases Jb f n with ⟨h1, h2⟩ | ⟨i, h1, h2, h3, h4⟩
  · rw [h1]
    exact Je S n (fun k hk => by rw [hs k hk fun j hj => h2 j (by omega), if_pos (h2 k hk)]) (he h2)
  · rw [h1]
    exact Je S i (fun k hk => by rw [hs k (by omega) fun j hj => h4 j (by omega), if_pos (h4 k hk)]) (by rw [hs i h2 h4, if_neg h3])
/-! ### Names -/
def Qcg (q : Int × Nat) : Bool := (!(((decide (97 ≤ q.1)) && (decide (q.1 ≤ 122))) || ((decide (65 ≤ q.1)) && (decide (q.1 ≤ 90))))) && ((decide ((q.2 : Int) = 0)) || ((!decide (q.1 = 45)) && ((decide (q.1 < 48)) || (decide (57 < q.1)))))
def bi (s : ByteArray) : List Int := bl s
theorem Qet (s : ByteArray) : (bi s).length = s.size := JZ s
theorem Qss {s : ByteArray} {k : Nat} (h : k < (bi s).length) : idx (α := Int) (bl s) (k : Int) = some (bi s)[k] := XI (xs := bi s) h
def J7 (s : ByteArray) : Bool := decide (1 ≤ s.size) && (decide (s.size ≤ 12) && !((bi s).zipIdx.any Qcg))
theorem Qvo (s : ByteArray) : s = ByteArray.mk #[] ↔ s.size = 0 := by
  constructor
  · intro h; subst h; rfl
  · intro h
    cases s with
    | mk d =>
      congr 1
      exact Array.eq_empty_of_size_eq_zero h
theorem Qob (s : ByteArray) : Qch s = some (J7 s) := by
  unfold Qch J7
  have hlen : (bi s).zipIdx.length = s.size := by rw [List.length_zipIdx, Qet]
  by_cases h : 1 ≤ s.size ∧ s.size ≤ 12
  · have : (decide ((s.size : Int) < 1) || decide (12 < (s.size : Int))) = false := by
      rw [decide_eq_false (by omega), decide_eq_false (by omega)]; rfl
    rw [this, cond_false, ZL (bi s).zipIdx Qcg (fun _ _ => false), QE]
    · rcases J8 (p := Qcg) (res := fun _ _ => false) (bi s).zipIdx 0 with ⟨k1, k2⟩ | ⟨j, x, k1, k2, k3⟩
      · rw [k1, k2]; simp [h, jn0]
      · rw [k1, k3]; simp [jn0]
    · intro k hk
      rw [hlen] at hk
      unfold Qjd
      rw [XW hk, cond_true, Qss (show k < (bi s).length by rw [Qet]; exact hk), QE, X0 k (by omega)]
      simp only [List.getElem_zipIdx, Nat.zero_add]
      rfl
    · rw [hlen]
      unfold Qjd
      rw [XX]; rfl
  · have : (decide ((s.size : Int) < 1) || decide (12 < (s.size : Int))) = true := by
      by_cases h1 : s.size < 1
      · rw [decide_eq_true (by omega)]; rfl
      · rw [decide_eq_true (p := 12 < (s.size : Int)) (by omega)]; simp
    rw [this, cond_true]
    congr 1
    by_cases h1 : 1 ≤ s.size
    · rw [decide_eq_false (p := s.size ≤ 12) (by omega)]; simp
    · rw [decide_eq_false h1]; rfl
theorem QAv (s : ByteArray) (hs : s.size ≤ 1000) : Qcv s = some (J7 s) := by
  unfold Qcv J7
  have hlen : (bi s).zipIdx.length = s.size := by rw [List.length_zipIdx, Qet]
  have ht : tob s = some (bl s) := by unfold tob; rw [if_pos (by omega)]
  rw [ht, QE, ZL (bi s).zipIdx Qcg (fun _ _ => false), QE]
  · rcases J8 (p := Qcg) (res := fun _ _ => false) (bi s).zipIdx 0 with ⟨k1, k2⟩ | ⟨j, x, k1, k2, k3⟩
    · rw [k1, k2]
      simp only [jn0, Bool.not_false, Bool.and_true, Option.some.injEq]
      by_cases h0 : s.size = 0
      · rw [decide_eq_true ((Qvo s).2 h0), decide_eq_false (show ¬ 1 ≤ s.size by omega)]; rfl
      · rw [decide_eq_false (fun e => h0 ((Qvo s).1 e)), decide_eq_true (show 1 ≤ s.size by omega)]
        simp only [Bool.not_false, Bool.true_and]
        by_cases h1 : s.size ≤ 12
        · rw [decide_eq_true h1, decide_eq_true (by omega)]
        · rw [decide_eq_false h1, decide_eq_false (by omega)]
    · rw [k1, k3]; simp [jn0]
  · intro k hk
    rw [hlen] at hk
    have hk2 : k < (bl s).length := by rw [JZ]; exact hk
    unfold Qfo
    rw [XW hk2, cond_true, Qss (show k < (bi s).length by rw [Qet]; exact hk), QE, X0 k (by omega)]
    simp only [List.getElem_zipIdx, Nat.zero_add]
    rfl
  · rw [hlen, show (s.size : Int) = ((bl s).length : Int) by rw [JZ]]
    unfold Qfo
    rw [XX]; rfl
theorem Qzu (l : List ByteArray) (v : ByteArray) (hl : l.length < 1000000) : Qeb l v = some (l.any fun x => decide (v = x)) := by
  unfold Qeb Qhu
  rw [ZL l (fun x => decide (v = x)) (fun k _ => (k : Int)), QE, Qhv, QE, Qnc]
  · intro k hk
    unfold Qht
    rw [XW hk, XI hk, X0 k (by omega)]; rfl
  · unfold Qht
    rw [XX]; rfl
def Jr (s : ByteArray) (others : List ByteArray) : Int := if J7 s = false then 4 else if (others.any fun x => decide (s = x)) = true then 5 else 0
theorem Qtj (s : ByteArray) (others : List ByteArray) (hs : s.size ≤ 1000) (hl : others.length < 1000000) : Qbf s others = some (Jr s others) := by
  unfold Qbf Jr
  rw [QAv s hs, QE, Ji, QE, Qzu _ _ hl, QE, Ji, QE, Jo _ (by simp), QE]
  cases J7 s <;> cases (others.any fun x => decide (s = x)) <;> simp [YR]
end Go.Gw

end
section
set_option maxRecDepth 4096
namespace Go.Gw
open Go
theorem Qeu {α : Type} {c : Bool} {a b : α} : (bif c then some a else some b) = some (bif c then a else b) := by cases c <;> rfl
def Qdx (l r il ir eq sh lo s0 s1 : Bool) : Int := bif (!(l || il)) || !(r || ir) then 6 else bif l && r then 23 else bif eq then 26 else bif !(sh && lo) then 2 else bif (l && !s0) || (r && !s1) then 3 else 0
def YI (s : FeedSection) (n : Nat) : Int := Qdx (decide (s.Left = -1)) (decide (s.Right = -1)) (decide (0 ≤ s.Left) && decide (s.Left ≤ (n : Int) - 1)) (decide (0 ≤ s.Right) && decide (s.Right ≤ (n : Int) - 1)) (decide (s.Left = s.Right))
  (decide (0 ≤ s.Share) && decide (s.Share ≤ 1000)) (decide (0 ≤ s.Loss) && decide (s.Loss ≤ 500)) (decide (s.Share = 0)) (decide (s.Share = 1000))
theorem QAz (s : FeedSection) (n : Nat) (hn : n < 1000) : Qde s (n : Int) = some (YI s n) := by
  unfold Qde Qdd YI
  rw [Yr (by omega)]
  simp only [Ji, JT, QE, Qeu]
  rw [Jo _ (by simp), QE]
  congr 1
  generalize decide (s.Left = -1) = l
  generalize decide (s.Right = -1) = r
  generalize (decide (0 ≤ s.Left) && decide (s.Left ≤ (n : Int) - 1)) = il
  generalize (decide (0 ≤ s.Right) && decide (s.Right ≤ (n : Int) - 1)) = ir
  generalize decide (s.Left = s.Right) = eq
  generalize (decide (0 ≤ s.Share) && decide (s.Share ≤ 1000)) = sh
  generalize (decide (0 ≤ s.Loss) && decide (s.Loss ≤ 500)) = lo
  generalize decide (s.Share = 0) = s0
  generalize decide (s.Share = 1000) = s1
  revert l r il ir eq sh lo s0 s1
  decide +kernel
theorem QJm (m : FeedNet) (s : FeedSection) (hn : m.Stations.length < 1000) : Qhf m s = some (YI s m.Stations.length) := by
  unfold Qhf Qhe YI
  rw [Yr (by omega)]
  simp only [Qai, QE, Qeu]
  congr 1
  generalize decide (s.Left = -1) = l
  generalize decide (s.Right = -1) = r
  generalize (decide (0 ≤ s.Left) && decide (s.Left ≤ (m.Stations.length : Int) - 1)) = il
  generalize (decide (0 ≤ s.Right) && decide (s.Right ≤ (m.Stations.length : Int) - 1)) = ir
  generalize decide (s.Left = s.Right) = eq
  generalize (decide (0 ≤ s.Share) && decide (s.Share ≤ 1000)) = sh
  generalize (decide (0 ≤ s.Loss) && decide (s.Loss ≤ 500)) = lo
  generalize decide (s.Share = 0) = s0
  generalize decide (s.Share = 1000) = s1
  revert l r il ir eq sh lo s0 s1
  decide +kernel
def ZQ (s : FeedStep) (n : Nat) : Int := bif !(decide (0 ≤ s.Section) && decide (s.Section ≤ (n : Int) - 1)) then 6 else bif !(decide (-20000 ≤ s.Power) && decide (s.Power ≤ 20000)) then 2 else 0
def Qhw (l : List FeedStep) (n : Nat) : Int := match XH (fun i => (l[i]?.map (ZQ · n)).getD 0) l.length with | some i => (l[i]?.map (ZQ · n)).getD 0 | none => 0
def Qxm (e1 e2 : Bool) (o : Bool) (z : Bool) (m : Bool) (st : Int) : Int := bif !(e1 && e2) then 2 else bif !o then 9 else bif !z then 10 else bif !m then 8 else st
def JB (t : FeedTrain) (n : Nat) : Int := Qxm (decide (0 ≤ t.Earliest) && decide (t.Earliest ≤ 1000)) (decide (0 ≤ t.Latest) && decide (t.Latest ≤ 1000)) (decide (t.Earliest ≤ t.Latest)) (decide (0 < (t.Steps.length : Int))) (decide ((t.Steps.length : Int) ≤ 12)) (Qhw t.Steps n)
theorem Qlk (l : List FeedStep) (n k : Nat) (hk : k < l.length) : (l[k]?.map (ZQ · n)).getD 0 = ZQ l[k] n := by rw [List.getElem?_eq_getElem hk]; rfl
theorem QBc (t : FeedTrain) (n : Nat) (hn : n < 1000) (ht : t.Steps.length < 1000) : Qdg t (n : Int) = some (JB t n) := by
  have key : loop (Qdf (n : Int) t) 0 = some (match XH (fun i => (t.Steps[i]?.map (ZQ · n)).getD 0) t.Steps.length with | some i => .inl ((t.Steps[i]?.map (ZQ · n)).getD 0) | none => .inr ()) :=
    Jq (fun k => (k : Int)) t.Steps.length _ (fun _ e => e) () (fun k hk _ => by
      rw [Qlk _ _ _ hk]
      unfold Qdf ZQ
      rw [XW hk, cond_true, XI hk, QE, X0 k (by omega), Yr (by omega)]
      simp only [Ji, JT, QE]
      rw [QMk _ _ (by omega) (by omega)]
      simp only [Ji, QE]
      rw [Jo _ (by simp), QE]
      generalize (decide (0 ≤ t.Steps[k].Section) && decide (t.Steps[k].Section ≤ (n : Int) - 1)) = a
      generalize (decide (-20000 ≤ t.Steps[k].Power) && decide (t.Steps[k].Power ≤ 20000)) = b
      cases a <;> cases b <;> rfl) (fun _ => by
      unfold Qdf
      rw [XX]; rfl)
  unfold Qdg Qak
  rw [key]
  unfold JB Qhw
  simp only [Ji, JT, QE, Qeu]
  rw [Jo _ (by simp), QE]
  generalize (decide (0 ≤ t.Earliest) && decide (t.Earliest ≤ 1000)) = e1
  generalize (decide (0 ≤ t.Latest) && decide (t.Latest ≤ 1000)) = e2
  generalize decide (t.Earliest ≤ t.Latest) = o
  generalize decide (0 < (t.Steps.length : Int)) = z
  generalize decide ((t.Steps.length : Int) ≤ 12) = m
  cases XH (fun i => (t.Steps[i]?.map (ZQ · n)).getD 0) t.Steps.length with
  | none => cases e1 <;> cases e2 <;> cases o <;> cases z <;> cases m <;> rfl
  | some i => cases e1 <;> cases e2 <;> cases o <;> cases z <;> cases m <;> rfl
theorem QJr (m : FeedNet) (t : FeedTrain) (hn : m.Sections.length < 1000) (ht : t.Steps.length < 1000) : Qhh m t = some (JB t m.Sections.length) := by
  have key : loop (Qhg m t) 0 = some (match XH (fun i => (t.Steps[i]?.map (ZQ · m.Sections.length)).getD 0) t.Steps.length with | some i => .inl ((t.Steps[i]?.map (ZQ · m.Sections.length)).getD 0) | none => .inr ()) :=
    Jq (fun k => (k : Int)) t.Steps.length _ (fun _ e => e) () (fun k hk _ => by
      rw [Qlk _ _ _ hk]
      unfold Qhg Qmm ZQ
      rw [XW hk, cond_true, XI hk, QE, X0 k (by omega), Yr (by omega)]
      simp only [Qai, QE]
      generalize (decide (0 ≤ t.Steps[k].Section) && decide (t.Steps[k].Section ≤ (m.Sections.length : Int) - 1)) = a
      generalize (decide (-20000 ≤ t.Steps[k].Power) && decide (t.Steps[k].Power ≤ 20000)) = b
      cases a <;> cases b <;> rfl) (fun _ => by
      unfold Qhg
      rw [XX]; rfl)
  unfold Qhh
  rw [key]
  unfold JB Qhw
  simp only [Qai, QE, Qeu]
  rw [show decide (t.Latest < t.Earliest) = !decide (t.Earliest ≤ t.Latest) by rw [← decide_not]; congr 1; exact propext (by omega),
    show decide ((t.Steps.length : Int) = 0) = !decide (0 < (t.Steps.length : Int)) by rw [← decide_not]; congr 1; exact propext (by omega),
    show decide (12 < (t.Steps.length : Int)) = !decide ((t.Steps.length : Int) ≤ 12) by rw [← decide_not]; congr 1; exact propext (by omega)]
  generalize (decide (0 ≤ t.Earliest) && decide (t.Earliest ≤ 1000)) = e1
  generalize (decide (0 ≤ t.Latest) && decide (t.Latest ≤ 1000)) = e2
  generalize decide (t.Earliest ≤ t.Latest) = o
  generalize decide (0 < (t.Steps.length : Int)) = z
  generalize decide ((t.Steps.length : Int) ≤ 12) = q
  cases XH (fun i => (t.Steps[i]?.map (ZQ · m.Sections.length)).getD 0) t.Steps.length with
  | none => cases e1 <;> cases e2 <;> cases o <;> cases z <;> cases q <;> rfl
  | some i => cases e1 <;> cases e2 <;> cases o <;> cases z <;> cases q <;> rfl
end Go.Gw

end
section
set_option maxRecDepth 4096
namespace Go.Gw
open Go
def stE (s : FeedStation) (others : List ByteArray) : Int := if Jr s.Name others ≠ 0 then Jr s.Name others else bif !(decide (0 ≤ s.Limit) && decide (s.Limit ≤ 100000)) then 2 else 0
def Y0 (n : FeedNet) (i : Nat) : Int := (n.Stations[i]?.map fun s => stE s ((n.Stations.take i).map (·.Name))).getD 0
def Y5 (n : FeedNet) (i : Nat) : Int := (n.Sections[i]?.map fun s => YI s n.Stations.length).getD 0
def trE (t : FeedTrain) (others : List ByteArray) (n : Nat) : Int := if Jr t.Name others ≠ 0 then Jr t.Name others else JB t n
def Y2 (n : FeedNet) (i : Nat) : Int := (n.Trains[i]?.map fun t => trE t ((n.Trains.take i).map (·.Name)) n.Sections.length).getD 0
def YW (n : FeedNet) : FeedMark × Int :=
  if n.Stations.length = 0 ∨ n.Sections.length = 0 then (FeedMark.mk 0 0, 10) else if 6 < n.Stations.length ∨ 10 < n.Sections.length ∨ 6 < n.Trains.length then (FeedMark.mk 0 0, 8) else
  match XH (Y0 n) n.Stations.length with
  | some i => (FeedMark.mk 1 i, Y0 n i)
  | none => match XH (Y5 n) n.Sections.length with
    | some i => (FeedMark.mk 2 i, Y5 n i)
    | none => match XH (Y2 n) n.Trains.length with
      | some i => (FeedMark.mk 3 i, Y2 n i)
      | none => (FeedMark.mk 0 0, 0)
structure NetS (n : FeedNet) : Prop where
  st : n.Stations.length < 1000
  se : n.Sections.length < 1000
  tr : n.Trains.length < 1000
  sn : ∀ s ∈ n.Stations, s.Name.size ≤ 1000
  tn : ∀ t ∈ n.Trains, t.Name.size ≤ 1000 ∧ t.Steps.length < 1000
theorem Zu {α : Type} (l : List α) (f : α → Int) (k : Nat) (hk : k < l.length) : (l[k]?.map f).getD 0 = f l[k] := by rw [List.getElem?_eq_getElem hk]; rfl
theorem Qhy {α β : Type} (l : List α) (f : α → β) (k : Nat) (hk : k < l.length) : (l.take k).map f ++ [f l[k]] = (l.take (k + 1)).map f := by
  rw [List.take_add_one, List.getElem?_eq_getElem hk, List.map_append]; rfl
theorem Qli (a b : Int) : YR [a, b] = if a ≠ 0 then a else b := by
  by_cases h : a = 0
  · by_cases h2 : b = 0 <;> simp [YR, h, h2]
  · simp [YR, h]
section
variable {n : FeedNet} (h : NetS n)
include h
theorem QBb : loop (Qcq n) (([] : List ByteArray), 0) = some (match XH (Y0 n) n.Stations.length with | some i => .inl (FeedMark.mk 1 i, Y0 n i) | none => .inr ()) :=
  Jq (fun k => ((n.Stations.take k).map (·.Name), (k : Int))) n.Stations.length (Y0 n) (fun i e => (FeedMark.mk 1 i, e)) () (fun k hk _ => by
    have hst := h.st
    have hs : Y0 n k = stE n.Stations[k] ((n.Stations.take k).map (·.Name)) := Zu _ _ _ hk
    rw [hs]
    unfold Qcq stE
    simp only [XW hk, cond_true, XI hk, QE]
    rw [Qtj _ _ (h.sn _ (List.getElem_mem hk)) (by simp; omega), QE]
    simp only [JT, Ji, QE]
    rw [Jo _ (by simp), QE, Qli]
    generalize (decide (0 ≤ n.Stations[k].Limit) && decide (n.Stations[k].Limit ≤ 100000)) = b
    by_cases h1 : Jr n.Stations[k].Name ((n.Stations.take k).map (·.Name)) = 0
    · simp only [h1, ne_eq, not_true_eq_false, if_false]
      cases b
      · rfl
      · simp only [cond_true, decide_true, Bool.not_true, cond_false, if_true]
        rw [JY (by simp; omega), QE, Qhy n.Stations (·.Name) k hk, X0 k (by omega)]
    · simp only [ne_eq, h1, not_false_eq_true, if_true, decide_false, Bool.not_false, cond_true, if_false]) (fun _ => by
    unfold Qcq
    simp only [XX]; rfl)
theorem QBa : loop (Qcr n) 0 = some (match XH (Y5 n) n.Sections.length with | some i => .inl (FeedMark.mk 2 i, Y5 n i) | none => .inr ()) :=
  Jq (fun k => (k : Int)) n.Sections.length (Y5 n) (fun i e => (FeedMark.mk 2 i, e)) () (fun k hk _ => by
    have hse := h.se
    have hs : Y5 n k = YI n.Sections[k] n.Stations.length := Zu _ _ _ hk
    rw [hs]
    unfold Qcr
    rw [XW hk, cond_true, XI hk, QE, QAz _ _ h.st, QE, X0 k (by omega)]
    by_cases h1 : YI n.Sections[k] n.Stations.length = 0
    · simp [h1]
    · simp [h1]) (fun _ => by
    unfold Qcr
    rw [XX]; rfl)
theorem QBe : loop (Qcs n) (([] : List ByteArray), 0) = some (match XH (Y2 n) n.Trains.length with | some i => .inl (FeedMark.mk 3 i, Y2 n i) | none => .inr ()) :=
  Jq (fun k => ((n.Trains.take k).map (·.Name), (k : Int))) n.Trains.length (Y2 n) (fun i e => (FeedMark.mk 3 i, e)) () (fun k hk _ => by
    have hst := h.tr
    have hs : Y2 n k = trE n.Trains[k] ((n.Trains.take k).map (·.Name)) n.Sections.length := Zu _ _ _ hk
    rw [hs]
    unfold Qcs trE
    simp only [XW hk, cond_true, XI hk, QE]
    rw [Qtj _ _ (h.tn _ (List.getElem_mem hk)).1 (by simp; omega), QE, QBc _ _ h.se (h.tn _ (List.getElem_mem hk)).2, QE]
    rw [Jo _ (by simp), QE, Qli]
    by_cases h1 : Jr n.Trains[k].Name ((n.Trains.take k).map (·.Name)) = 0
    · simp only [h1, ne_eq, not_true_eq_false, if_false]
      by_cases h2 : JB n.Trains[k] n.Sections.length = 0
      · simp only [h2, decide_true, Bool.not_true, cond_false, if_true]
        rw [JY (by simp; omega), QE, Qhy n.Trains (·.Name) k hk, X0 k (by omega)]
      · simp [h2]
    · simp only [ne_eq, h1, not_false_eq_true, if_true, decide_false, Bool.not_false, cond_true, if_false]) (fun _ => by
    unfold Qcs
    simp only [XX]; rfl)
theorem QAr : Qct n = some (YW n) := by
  unfold Qct YW
  rw [QBb h, QBa h, QBe h]
  simp only [Ji, QE]
  rw [Jo _ (by simp), QE, Qli]
  by_cases h1 : n.Stations.length = 0 ∨ n.Sections.length = 0
  · rw [if_pos h1]
    have : (decide (0 < (n.Stations.length : Int)) && decide (0 < (n.Sections.length : Int))) = false := by
      rw [Bool.eq_false_iff]; intro e; simp at e; omega
    rw [this]; rfl
  · rw [if_neg h1]
    have : (decide (0 < (n.Stations.length : Int)) && decide (0 < (n.Sections.length : Int))) = true := by
      simp; omega
    rw [this]
    by_cases h2 : 6 < n.Stations.length ∨ 10 < n.Sections.length ∨ 6 < n.Trains.length
    · rw [if_pos h2]
      have : ((decide ((n.Stations.length : Int) ≤ 6) && decide ((n.Sections.length : Int) ≤ 10)) && decide ((n.Trains.length : Int) ≤ 6)) = false := by
        rw [Bool.eq_false_iff]; intro e; simp at e; omega
      rw [this]; rfl
    · rw [if_neg h2]
      have : ((decide ((n.Stations.length : Int) ≤ 6) && decide ((n.Sections.length : Int) ≤ 10)) && decide ((n.Trains.length : Int) ≤ 6)) = true := by
        simp; omega
      rw [this]
      cases XH (Y0 n) n.Stations.length with
      | some i => rfl
      | none =>
        cases XH (Y5 n) n.Sections.length with
        | some i => rfl
        | none =>
          cases XH (Y2 n) n.Trains.length with
          | some i => rfl
          | none => rfl
end
end Go.Gw

end
section
set_option maxRecDepth 4096
namespace Go.Gw
open Go
theorem Qwt {α : Type} {p : α → Bool} : ∀ (l : List α) (k m : Nat) (hk : k < l.length), p l[k] = true → ∃ j : Nat, XM p (fun k _ => (k : Int)) m l = .inl ((m + j : Nat) : Int) ∧ (j < k ↔ (l.take k).any p = true)
  | x :: xs, 0, m, _, hp => ⟨0, by simp at hp; simp [XM, hp], by simp⟩
  | x :: xs, k + 1, m, hk, hp => by
    by_cases hx : p x = true
    · exact ⟨0, by simp [XM, hx], by simp [hx]⟩
    · obtain ⟨j, h1, h2⟩ := Qwt xs k (m + 1) (by simpa using hk) (by simpa using hp)
      refine ⟨j + 1, by simp only [XM, hx]; rw [← show m + 1 + j = m + (j + 1) by omega]; simpa using h1, ?_⟩
      simp only [List.take_succ_cons, List.any_cons, hx]
      rw [← (show ((l : Bool) → (false || l) = l) from fun l => by cases l <;> rfl) ((xs.take k).any p)] at h2
      constructor
      · intro h; simpa using h2.1 (by omega)
      · intro h; have := h2.2 (by simpa using h); omega
theorem Qnz {α : Type} (f : α → ByteArray) (l : List α) (s : ByteArray) : ((l.map f).any fun x => decide (s = x)) = l.any fun y => decide (f y = s) := by
  rw [List.any_map]
  congr 1
  funext y
  exact decide_eq_decide.2 eq_comm
def Yq (n : FeedNet) (s : ByteArray) : Int := match XM (fun t : FeedTrain => decide (t.Name = s)) (fun k _ => (k : Int)) 0 n.Trains with | .inl i => i | .inr _ => -1
theorem Quq (n : FeedNet) (s : ByteArray) (h : n.Trains.length < 1000000) : Qdv n s = some (Yq n s) := by
  unfold Qdv Yq
  rw [ZL n.Trains (fun t => decide (t.Name = s)) (fun k _ => (k : Int)), QE, Qhv]
  all_goals first
    | (intro k hk; unfold Qml; rw [XW hk, cond_true, XI hk, QE, X0 k (by omega)])
    | (unfold Qml; rw [XX]; rfl)
    | rfl
section
variable {n : FeedNet} (h : NetS n)
include h
theorem QJp : loop (Qgx n) 0 = some (match XH (Y0 n) n.Stations.length with | some i => .inl (FeedMark.mk 1 i, Y0 n i) | none => .inr ()) :=
  Jq (fun k => (k : Int)) n.Stations.length (Y0 n) (fun i e => (FeedMark.mk 1 i, e)) () (fun k hk _ => by
    have hst := h.st
    have hs : Y0 n k = stE n.Stations[k] ((n.Stations.take k).map (·.Name)) := Zu _ _ _ hk
    have hlen : (n.Stations.take k).length = k := by simp; omega
    have inner : loop (Qgw n (k : Int)) 0 = some (XM (fun y : FeedStation => decide (y.Name = n.Stations[k].Name)) (fun _ _ => Sum.inr (α := Int) (Sum.inl (β := Unit) (FeedMark.mk 1 (k : Int), (5 : Int)))) 0 (n.Stations.take k)) :=
      ZL (n.Stations.take k) _ _ (fun j hj => by
        rw [hlen] at hj
        unfold Qgw
        rw [XW hj, cond_true, XI (show j < n.Stations.length by omega), QE, XI hk, QE, X0 j (by omega)]
        simp only [List.getElem_take]) (by
        rw [hlen]
        unfold Qgw
        rw [XX]; rfl)
    rw [hs]
    unfold Qgx stE Jr
    rw [XW hk, cond_true, XI hk, QE, Qob, QE, inner, Qnz]
    cases hn : J7 n.Stations[k].Name
    · rfl
    · simp only [Bool.not_true, cond_false, QE]
      rcases J8 (p := fun y : FeedStation => decide (y.Name = n.Stations[k].Name)) (res := fun _ _ => Sum.inr (α := Int) (Sum.inl (β := Unit) (FeedMark.mk 1 (k : Int), (5 : Int)))) (n.Stations.take k) 0 with ⟨k1, k2⟩ | ⟨j, x, k1, k2, k3⟩
      · rw [k1, k2]
        simp only [jn0, QE, Qai, X0 k (show k < 4611686018427387904 by omega)]
        generalize (decide (0 ≤ n.Stations[k].Limit) && decide (n.Stations[k].Limit ≤ 100000)) = b
        cases b <;> rfl
      · rw [k1, k3]; rfl) (fun _ => by
    unfold Qgx
    rw [XX]; rfl)
theorem QJn : loop (Qgy n) 0 = some (match XH (Y5 n) n.Sections.length with | some i => .inl (FeedMark.mk 2 i, Y5 n i) | none => .inr ()) :=
  Jq (fun k => (k : Int)) n.Sections.length (Y5 n) (fun i e => (FeedMark.mk 2 i, e)) () (fun k hk _ => by
    have hse := h.se
    have hs : Y5 n k = YI n.Sections[k] n.Stations.length := Zu _ _ _ hk
    rw [hs]
    unfold Qgy
    rw [XW hk, cond_true, XI hk, QE, QJm _ _ h.st, QE, X0 k (by omega)]
    by_cases h1 : YI n.Sections[k] n.Stations.length = 0
    · simp [h1]
    · simp [h1]) (fun _ => by
    unfold Qgy
    rw [XX]; rfl)
theorem QJs : loop (Qgz n) 0 = some (match XH (Y2 n) n.Trains.length with | some i => .inl (FeedMark.mk 3 i, Y2 n i) | none => .inr ()) :=
  Jq (fun k => (k : Int)) n.Trains.length (Y2 n) (fun i e => (FeedMark.mk 3 i, e)) () (fun k hk _ => by
    have hst := h.tr
    have hs : Y2 n k = trE n.Trains[k] ((n.Trains.take k).map (·.Name)) n.Sections.length := Zu _ _ _ hk
    obtain ⟨j, hj1, hj2⟩ := Qwt (p := fun t : FeedTrain => decide (t.Name = n.Trains[k].Name)) n.Trains k 0 hk (by simp)
    have ht : Yq n n.Trains[k].Name = (j : Int) := by unfold Yq; rw [hj1]; simp
    rw [hs]
    unfold Qgz trE Jr
    rw [XW hk, cond_true, XI hk, QE, Qob, QE, Qnz]
    cases hn : J7 n.Trains[k].Name
    · rfl
    · simp only [Bool.not_true, cond_false, QE]
      rw [Quq _ _ (by omega), ht, QE, QJr _ _ h.se (h.tn _ (List.getElem_mem hk)).2, QE, X0 k (by omega)]
      cases ha : (n.Trains.take k).any (fun t => decide (t.Name = n.Trains[k].Name)) with
      | true =>
        rw [decide_eq_true (show (j : Int) < k by have := hj2.2 ha; omega)]; rfl
      | false =>
        rw [decide_eq_false (show ¬ (j : Int) < k by intro e; have := hj2.1 (by omega); rw [ha] at this; cases this)]
        by_cases h2 : JB n.Trains[k] n.Sections.length = 0
        · simp [h2]
        · simp [h2]) (fun _ => by
    unfold Qgz
    rw [XX]; rfl)
theorem QJl : Qha n = some (YW n) := by
  unfold Qha YW
  rw [QJp h, QJn h, QJs h]
  by_cases h1 : n.Stations.length = 0 ∨ n.Sections.length = 0
  · rw [if_pos h1]
    have : (decide ((n.Stations.length : Int) = 0) || decide ((n.Sections.length : Int) = 0)) = true := by
      simp only [Bool.or_eq_true, decide_eq_true_eq]; omega
    rw [this]; rfl
  · rw [if_neg h1]
    have : (decide ((n.Stations.length : Int) = 0) || decide ((n.Sections.length : Int) = 0)) = false := by
      rw [decide_eq_false (by omega), decide_eq_false (by omega)]; rfl
    rw [this, cond_false]
    by_cases h2 : 6 < n.Stations.length ∨ 10 < n.Sections.length ∨ 6 < n.Trains.length
    · rw [if_pos h2]
      have : ((decide (6 < (n.Stations.length : Int)) || decide (10 < (n.Sections.length : Int))) || decide (6 < (n.Trains.length : Int))) = true := by
        simp only [Bool.or_eq_true, decide_eq_true_eq]; omega
      rw [this]; rfl
    · rw [if_neg h2]
      have : ((decide (6 < (n.Stations.length : Int)) || decide (10 < (n.Sections.length : Int))) || decide (6 < (n.Trains.length : Int))) = false := by
        rw [decide_eq_false (by omega), decide_eq_false (by omega), decide_eq_false (by omega)]; rfl
      rw [this, cond_false]
      cases XH (Y0 n) n.Stations.length with
      | some i => rfl
      | none =>
        cases XH (Y5 n) n.Sections.length with
        | some i => rfl
        | none =>
          cases XH (Y2 n) n.Trains.length with
          | some i => rfl
          | none => rfl
end
end Go.Gw

end
section
set_option maxRecDepth 4096
namespace Go.Gw
open Go
theorem Qoz (l : List FeedDeparture) (h : l.length < 1000000) : Qbw l = some l := by
  unfold Qbw; rw [JY (by simp; omega)]; rfl
theorem Qfe {n : FeedNet} (h : NetS n) : JM n = some n := by
  have key : loop (Qhb n) (0, ([] : List FeedTrain)) = some n.Trains :=
    Je (fun k => ((k : Int), n.Trains.take k)) n.Trains.length (fun k hk => by
      have hst := h.tr
      have hsteps := (h.tn _ (List.getElem_mem hk)).2
      unfold Qhb
      simp only [XW hk, cond_true, XI hk, QE]
      rw [JY (by simp; omega), QE, JY (by simp; omega), QE, X0 k (by omega), List.nil_append]
      congr 3
      rw [List.take_add_one, List.getElem?_eq_getElem hk]; rfl) (by
      unfold Qhb
      simp only [XX, cond_false, List.take_length])
  unfold JM
  have h1 := h.st
  have h2 := h.se
  rw [JY (by simp; omega), JY (by simp; omega), key]
  rfl
def Qdh (n : FeedNet) : Bool := !(decide (8 < n.Stations.length) || decide (12 < n.Sections.length) || decide (8 < n.Trains.length)) && !(n.Stations.any fun s => decide (20 < (s.Name.size : Int))) && !(n.Trains.any fun t => decide (20 < (t.Name.size : Int)) || decide (14 < (t.Steps.length : Int)))
theorem QFi (n : FeedNet) : Qgc n = some (Qdh n) := by
  unfold Qgc Qdh
  by_cases h : 8 < n.Stations.length ∨ 12 < n.Sections.length ∨ 8 < n.Trains.length
  · have e1 : ((decide (8 < (n.Stations.length : Int)) || decide (12 < (n.Sections.length : Int))) || decide (8 < (n.Trains.length : Int))) = true := by
      simp only [Bool.or_eq_true, decide_eq_true_eq]; omega
    have e2 : (decide (8 < n.Stations.length) || decide (12 < n.Sections.length) || decide (8 < n.Trains.length)) = true := by
      simp only [Bool.or_eq_true, decide_eq_true_eq]; omega
    rw [e1, e2]; rfl
  · have e1 : ((decide (8 < (n.Stations.length : Int)) || decide (12 < (n.Sections.length : Int))) || decide (8 < (n.Trains.length : Int))) = false := by
      rw [decide_eq_false (by omega), decide_eq_false (by omega), decide_eq_false (by omega)]; rfl
    have e2 : (decide (8 < n.Stations.length) || decide (12 < n.Sections.length) || decide (8 < n.Trains.length)) = false := by
      rw [decide_eq_false (by omega), decide_eq_false (by omega), decide_eq_false (by omega)]; rfl
    rw [e1, e2, cond_false, ZL n.Stations (fun s => decide (20 < (s.Name.size : Int))) (fun _ _ => false), QE, ZL n.Trains (fun t => decide (20 < (t.Name.size : Int)) || decide (14 < (t.Steps.length : Int))) (fun _ _ => false)]
    · rcases J8 (p := fun s : FeedStation => decide (20 < (s.Name.size : Int))) (res := fun _ _ => false) n.Stations 0 with ⟨k1, k2⟩ | ⟨j, x, k1, k2, k3⟩
      · rw [k1, k2]
        rcases J8 (p := fun t : FeedTrain => decide (20 < (t.Name.size : Int)) || decide (14 < (t.Steps.length : Int))) (res := fun _ _ => false) n.Trains 0 with ⟨k3, k4⟩ | ⟨j, x, k3, k4, k5⟩
        · rw [k3, k4]; rfl
        · rw [k3, k5]; rfl
      · rw [k1, k3]; rfl
    · intro k hk
      unfold Qlo
      rw [XW hk, cond_true, XI hk, QE, X0 k (by omega)]
      cases h1 : decide (20 < (n.Trains[k].Name.size : Int)) <;> simp
    · unfold Qlo
      rw [XX]; rfl
    · intro k hk
      unfold Qln
      rw [XW hk, cond_true, XI hk, QE, X0 k (by omega)]
    · unfold Qln
      rw [XX]; rfl
theorem QFh {n : FeedNet} (h : Qdh n = true) : NetS n := by
  unfold Qdh at h
  simp only [Bool.and_eq_true, Bool.not_eq_true', Bool.or_eq_false_iff, decide_eq_false_iff_not, List.any_eq_false] at h
  obtain ⟨⟨⟨⟨h1, h2⟩, h3⟩, h4⟩, h5⟩ := h
  refine ⟨by omega, by omega, by omega, fun s hs => ?_, fun t ht => ?_⟩
  · have := h4 s hs; simp at this; omega
  · have := h5 t ht; simp at this; omega
def Qdz (l : List FeedDeparture) : Bool := !(decide (8 < l.length)) && !(l.any fun d => decide (20 < (d.Train.size : Int)))
theorem QLa (l : List FeedDeparture) : Qgg l = some (Qdz l) := by
  unfold Qgg Qdz
  by_cases h : 8 < l.length
  · rw [decide_eq_true (show 8 < (l.length : Int) by omega), decide_eq_true h]; rfl
  · rw [decide_eq_false (show ¬ 8 < (l.length : Int) by omega), decide_eq_false h, cond_false, ZL l (fun d => decide (20 < (d.Train.size : Int))) (fun _ _ => false)]
    · rcases J8 (p := fun d : FeedDeparture => decide (20 < (d.Train.size : Int))) (res := fun _ _ => false) l 0 with ⟨k1, k2⟩ | ⟨j, x, k1, k2, k3⟩
      · rw [k1, k2]; rfl
      · rw [k1, k3]; rfl
    · intro k hk
      unfold Qlp
      rw [XW hk, cond_true, XI hk, QE, X0 k (by omega)]
    · unfold Qlp
      rw [XX]; rfl
theorem QKz {l : List FeedDeparture} (h : Qdz l = true) : l.length ≤ 8 := by
  unfold Qdz at h; simp at h; omega
end Go.Gw

end
section
set_option maxRecDepth 4096
namespace Go.Gw
open Go
def ZG (n : FeedNet) (d : FeedDeparture) (others : List FeedDeparture) : Int := if Yq n d.Train < 0 then 6 else if (others.any fun o => decide (o.Train = d.Train)) = true then 26 else bif !(decide (0 ≤ d.At) && decide (d.At ≤ 1000)) then 2 else 0
def Yv (n : FeedNet) (l : List FeedDeparture) (i : Nat) : Int := (l[i]?.map fun d => ZG n d (l.take i)).getD 0
def Q7 (n : FeedNet) (d : FeedDeparture) : feed_run := feed_run.mk (n.Trains[(Yq n d.Train).toNat]?.getD default) d.At
theorem Qnn {n : FeedNet} {s : ByteArray} (h : 0 ≤ Yq n s) : ∃ t, n.Trains[(Yq n s).toNat]? = some t ∧ t.Name = s ∧ (Yq n s).toNat < n.Trains.length := by
  have key : ∀ (l : List FeedTrain) (m : Nat), (XM (fun t : FeedTrain => decide (t.Name = s)) (fun k _ => (k : Int)) m l = .inr ()) ∨ ∃ (j : Nat) (t : FeedTrain), XM (fun t : FeedTrain => decide (t.Name = s)) (fun k _ => (k : Int)) m l = .inl ((m + j : Nat) : Int) ∧ l[j]? = some t ∧ t.Name = s := by
    intro l
    induction l with
    | nil => intro m; exact .inl rfl
    | cons x xs ih =>
      intro m
      by_cases hx : x.Name = s
      · exact .inr ⟨0, x, by simp [XM, hx], rfl, hx⟩
      · rcases ih (m + 1) with h1 | ⟨j, t, h1, h2, h3⟩
        · exact .inl (by simp [XM, hx, h1])
        · exact .inr ⟨j + 1, t, by simp only [XM, hx, decide_false]; rw [← show m + 1 + j = m + (j + 1) by omega]; simpa using h1, h2, h3⟩
  rcases key n.Trains 0 with h1 | ⟨j, t, h1, h2, h3⟩
  · unfold Yq at h; rw [h1] at h; simp at h
  · have e : Yq n s = (j : Int) := by unfold Yq; rw [h1]; simp
    rw [e]
    exact ⟨t, by simpa using h2, h3, by simpa using (List.getElem?_eq_some_iff.1 h2).1⟩
theorem QBd (n : FeedNet) (s : ByteArray) (h : n.Trains.length < 1000000) : Qda ⟨n⟩ s = some (Yq n s) := by
  unfold Qda Qhq Yq
  rw [ZL n.Trains (fun t => decide (t.Name = s)) (fun k _ => (k : Int)), QE, Qhv]
  · rfl
  · intro k hk
    unfold Qhp
    rw [XW hk, cond_true, XI hk, QE, X0 k (by omega)]; rfl
  · unfold Qhp
    rw [XX]; rfl
theorem Qzl (l : List feed_run) (d : FeedDeparture) (hl : l.length < 1000000) : Qea l d = some (l.any fun r => decide (r.FeedTrain.Name = d.Train)) := by
  unfold Qea Qhs
  rw [ZL l (fun r => decide (r.FeedTrain.Name = d.Train)) (fun k _ => (k : Int)), QE, Qhv, QE, Qnc]
  · intro k hk
    unfold Qhr
    rw [XW hk, cond_true, XI hk, QE, X0 k (by omega)]; rfl
  · unfold Qhr
    rw [XX]; rfl
theorem Qjo {n : FeedNet} {d : FeedDeparture} {o : List FeedDeparture} (h : ZG n d o = 0) : 0 ≤ Yq n d.Train := by
  unfold ZG at h
  split at h
  · cases h
  · omega
theorem QKo {n : FeedNet} (s : ByteArray) (l : List FeedDeparture) (h : ∀ d ∈ l, 0 ≤ Yq n d.Train) : ((l.map (Q7 n)).any fun r => decide (r.FeedTrain.Name = s)) = l.any fun d => decide (d.Train = s) := by
  rw [List.any_map]
  induction l with
  | nil => rfl
  | cons d l ih =>
    simp only [List.any_cons]
    rw [ih fun x hx => h x (List.mem_cons_of_mem _ hx)]
    congr 1
    obtain ⟨t, h1, h2, _⟩ := Qnn (h d (List.mem_cons_self ..))
    simp [Q7, h1, h2]
theorem QFl (a b c : Int) : YR [a, b, c] = if a ≠ 0 then a else if b ≠ 0 then b else c := by
  by_cases h : a = 0 <;> by_cases h2 : b = 0 <;> by_cases h3 : c = 0 <;> simp [YR, h, h2, h3]
theorem QAx (n : FeedNet) (l : List FeedDeparture) (hn : n.Trains.length < 1000) : Qcz ⟨n⟩ l = some (if 6 < l.length then ([], 0, 8) else match XH (Yv n l) l.length with | some i => ([], (i : Int), Yv n l i) | none => (l.map (Q7 n), 0, 0)) := by
  unfold Qcz
  by_cases h6 : 6 < l.length
  · rw [decide_eq_true (show 6 < (l.length : Int) by omega), if_pos h6]; rfl
  · rw [decide_eq_false (show ¬ 6 < (l.length : Int) by omega), if_neg h6, cond_false]
    have key : loop (Qcy l ⟨n⟩) (([] : List feed_run), 0) = some (match XH (Yv n l) l.length with | some i => .inl ([], (i : Int), Yv n l i) | none => .inr (l.map (Q7 n))) :=
      Jq (fun k => ((l.take k).map (Q7 n), (k : Int))) l.length (Yv n l) (fun i e => (([] : List feed_run), (i : Int), e)) (l.map (Q7 n)) (fun k hk hpre => by
        have hs : Yv n l k = ZG n l[k] (l.take k) := Zu _ _ _ hk
        have hall : ∀ d ∈ l.take k, 0 ≤ Yq n d.Train := fun d hd => by
          obtain ⟨j, hj, rfl⟩ := List.mem_iff_getElem.1 hd
          have hjk : j < k := by rw [List.length_take] at hj; omega
          have := hpre j hjk
          rw [show Yv n l j = ZG n l[j] (l.take j) from Zu _ _ _ (by omega)] at this
          rw [List.getElem_take]
          exact Qjo this
        rw [hs]
        unfold Qcy
        simp only [XW hk, cond_true, XI hk, QE]
        rw [QBd n _ (by omega), QE, Qzl _ _ (by simp; omega), QE, QKo _ _ hall]
        unfold Qak
        simp only [Ji, JT, QE]
        rw [Jo _ (by simp), QE, QFl]
        unfold ZG
        generalize (decide (0 ≤ l[k].At) && decide (l[k].At ≤ 1000)) = b
        generalize ((l.take k).any fun d => decide (d.Train = l[k].Train)) = tw
        by_cases ht : Yq n l[k].Train < 0
        · rw [decide_eq_false (show ¬ 0 ≤ Yq n l[k].Train by omega)]
          simp [ht]
        · rw [decide_eq_true (show 0 ≤ Yq n l[k].Train by omega), if_neg ht]
          cases tw
          · cases b
            · rfl
            · simp only [cond_true, Bool.not_false, Bool.not_true, cond_false, ne_eq, not_true_eq_false, if_false, decide_true]
              obtain ⟨t, h1, h2, h3⟩ := Qnn (show 0 ≤ Yq n l[k].Train by omega)
              have hidx : idx n.Trains (Yq n l[k].Train) = some t := by unfold idx; rw [if_pos (by omega)]; exact h1
              rw [hidx, QE, JY (by simp; omega), QE, X0 k (by omega)]
              have : feed_run.mk t l[k].At = Q7 n l[k] := by unfold Q7; rw [h1]; rfl
              rw [this, Qhy l (Q7 n) k hk]
              rfl
          · rfl) (fun _ => by
        unfold Qcy
        simp only [XX, cond_false, List.take_length])
    rw [key, QE]
    cases XH (Yv n l) l.length <;> rfl
theorem QJk (n : FeedNet) (l : List FeedDeparture) (hn : n.Trains.length < 1000) : Qgv n l = some (if 6 < l.length then (0, 8) else match XH (Yv n l) l.length with | some i => ((i : Int), Yv n l i) | none => (0, 0)) := by
  unfold Qgv
  by_cases h6 : 6 < l.length
  · rw [decide_eq_true (show 6 < (l.length : Int) by omega), if_pos h6]; rfl
  · rw [decide_eq_false (show ¬ 6 < (l.length : Int) by omega), if_neg h6, cond_false]
    have key : loop (Qgu l n) 0 = some (match XH (Yv n l) l.length with | some i => .inl ((i : Int), Yv n l i) | none => .inr ()) :=
      Jq (fun k => (k : Int)) l.length (Yv n l) (fun i e => ((i : Int), e)) () (fun k hk _ => by
        have hs : Yv n l k = ZG n l[k] (l.take k) := Zu _ _ _ hk
        have hlen : (l.take k).length = k := by simp; omega
        have inner : loop (Qgt l (k : Int)) 0 = some (XM (fun y : FeedDeparture => decide (y.Train = l[k].Train)) (fun _ _ => Sum.inr (α := Int) (Sum.inl (β := Unit) ((k : Int), (26 : Int)))) 0 (l.take k)) :=
          ZL (l.take k) _ _ (fun j hj => by
            rw [hlen] at hj
            unfold Qgt
            rw [XW hj, cond_true, XI (show j < l.length by omega), QE, XI hk, QE, X0 j (by omega)]
            simp only [List.getElem_take]) (by
            rw [hlen]
            unfold Qgt
            rw [XX]; rfl)
        rw [hs]
        unfold Qgu ZG
        rw [XW hk, cond_true, XI hk, QE, Quq _ _ (by omega), QE, inner]
        by_cases ht : Yq n l[k].Train < 0
        · rw [decide_eq_true ht, if_pos ht]; rfl
        · rw [decide_eq_false ht, if_neg ht, cond_false, QE]
          rcases J8 (p := fun y : FeedDeparture => decide (y.Train = l[k].Train)) (res := fun _ _ => Sum.inr (α := Int) (Sum.inl (β := Unit) ((k : Int), (26 : Int)))) (l.take k) 0 with ⟨k1, k2⟩ | ⟨j, x, k1, k2, k3⟩
          · rw [k1, k2]
            simp only [jn0, QE, Qai, X0 k (show k < 4611686018427387904 by omega)]
            generalize (decide (0 ≤ l[k].At) && decide (l[k].At ≤ 1000)) = b
            cases b <;> rfl
          · rw [k1, k3]; rfl) (fun _ => by
        unfold Qgu
        rw [XX]; rfl)
    rw [key, QE]
    cases XH (Yv n l) l.length <;> rfl
end Go.Gw

end
section
set_option maxRecDepth 4096
namespace Go.Gw
open Go
/-! ### The greatest common divisor -/
noncomputable def QGi (n A : Int) : Frac := (Qzb n A).getD default
/-! ### Sums -/
theorem Qnf {c : Int} (hc : 0 ≤ c) : ∀ {l : List Int}, (∀ x ∈ l, -c ≤ x ∧ x ≤ c) → -(c * l.length) ≤ l.sum ∧ l.sum ≤ c * l.length
  | [], _ => by simp
  | x :: l, h => by
    have h1 := h x (List.mem_cons_self ..)
    have h2 := Qnf hc (l := l) fun y hy => h y (List.mem_cons_of_mem _ hy)
    simp only [List.sum_cons, List.length_cons]
    have : c * ((l.length + 1 : Nat) : Int) = c * l.length + c := by rw [Int.natCast_add, Int.mul_add]; simp
    rw [this]
    omega
theorem Qww {l : List Int} {k : Nat} (hk : k < l.length) : (l.take (k + 1)).sum = (l.take k).sum + l[k] := by
  rw [List.take_add_one, List.getElem?_eq_getElem hk, List.sum_append]
  simp
end Go.Gw

end
section
set_option maxRecDepth 4096
namespace Go.Gw
open Go
def Jj (st : List FeedStep) (k : Int) (s : Nat) : Int := if 0 ≤ k ∧ k ≤ (st.length : Int) - 1 then (match st[k.toNat]? with | some x => if x.Section = (s : Int) then x.Power else 0 | none => 0) else 0
def Q3 (l : List feed_run) (t : Int) (s : Nat) : Int := (l.map fun r => Jj r.FeedTrain.Steps (t - r.at_) s).sum
def Zq (m : Nat) (r : feed_run) : Prop := (∀ x ∈ r.FeedTrain.Steps, 0 ≤ x.Section ∧ x.Section ≤ (m : Int) - 1 ∧ -20000 ≤ x.Power ∧ x.Power ≤ 20000) ∧ r.FeedTrain.Steps.length ≤ 12 ∧ 0 ≤ r.at_ ∧ r.at_ ≤ 1000
theorem Qzz {m : Nat} {r : feed_run} (h : Zq m r) (k : Int) (s : Nat) : -20000 ≤ Jj r.FeedTrain.Steps k s ∧ Jj r.FeedTrain.Steps k s ≤ 20000 := by
  unfold Jj
  split
  · split
    · rename_i x hx
      have := h.1 x (List.mem_of_getElem? hx)
      split <;> omega
    · omega
  · omega
theorem Qgr {m : Nat} {l : List feed_run} (h : ∀ r ∈ l, Zq m r) (t : Int) (s : Nat) : -(20000 * (l.length : Int)) ≤ Q3 l t s ∧ Q3 l t s ≤ 20000 * (l.length : Int) := by
  have := Qnf (c := 20000) (by omega) (l := l.map fun r => Jj r.FeedTrain.Steps (t - r.at_) s) fun x hx => by
    obtain ⟨r, hr, rfl⟩ := List.mem_map.1 hx
    exact Qzz (h r hr) _ _
  simpa [Q3] using this
theorem Qmi {l : List feed_run} {t : Int} {s k : Nat} (hk : k < l.length) : Q3 (l.take (k + 1)) t s = Q3 (l.take k) t s + Jj l[k].FeedTrain.Steps (t - l[k].at_) s := by
  unfold Q3
  rw [List.take_add_one, List.getElem?_eq_getElem hk, List.map_append, List.sum_append]
  simp
theorem QKw {m : Nat} {f g : Nat → Int} {s : Nat} (hs : s < m) (hv : ∀ i, i ≠ s → g i = f i) : ((List.range m).map f).set s (g s) = (List.range m).map g := by
  apply List.ext_getElem?
  intro i
  by_cases hi : i = s
  · subst hi
    rw [List.getElem?_set_self (by simpa using hs)]
    simp [hs]
  · rw [List.getElem?_set_ne (Ne.symm hi)]
    by_cases him : i < m
    · simp [him, hv i hi]
    · simp [him]
theorem Qlv (m : Nat) (h : m < 1000) : mk (m : Int) (0 : Int) = some ((List.range m).map fun _ => (0 : Int)) := by
  unfold mk
  rw [if_pos (by omega)]
  congr 1
  apply List.ext_getElem?
  intro i
  by_cases hi : i < m <;> simp [hi]
theorem QMn {m : Nat} {r : feed_run} (h : Zq m r) {t : Int} (ht : 0 ≤ t) (ht2 : t ≤ 100000) :
    ∃ o, Qbj r t = some o ∧ ((o.2 = false ∧ ∀ s, Jj r.FeedTrain.Steps (t - r.at_) s = 0) ∨ (o.2 = true ∧ 0 ≤ o.1.Section ∧ o.1.Section ≤ (m : Int) - 1 ∧ -20000 ≤ o.1.Power ∧ o.1.Power ≤ 20000 ∧ ∀ s : Nat, Jj r.FeedTrain.Steps (t - r.at_) s = if o.1.Section = (s : Int) then o.1.Power else 0)) := by
  obtain ⟨h1, h2, h3, h4⟩ := h
  unfold Qbj
  rw [Yr (by omega), Yr (by omega), JT, QE]
  by_cases hin : 0 ≤ t - r.at_ ∧ t - r.at_ ≤ (r.FeedTrain.Steps.length : Int) - 1
  · have e : (decide (0 ≤ t - r.at_) && decide (t - r.at_ ≤ (r.FeedTrain.Steps.length : Int) - 1)) = true := by
      rw [decide_eq_true hin.1, decide_eq_true hin.2]; rfl
    have hk : (t - r.at_).toNat < r.FeedTrain.Steps.length := by omega
    have hidx : idx r.FeedTrain.Steps (t - r.at_) = some r.FeedTrain.Steps[(t - r.at_).toNat] := by
      unfold idx; rw [if_pos hin.1, List.getElem?_eq_getElem hk]
    rw [e]
    simp only [Bool.not_true, cond_false]
    rw [hidx, QE]
    have hb := h1 _ (List.getElem_mem hk)
    refine ⟨_, rfl, .inr ⟨rfl, hb.1, hb.2.1, hb.2.2.1, hb.2.2.2, fun s => ?_⟩⟩
    unfold Jj
    rw [if_pos hin, List.getElem?_eq_getElem hk]
  · have e : (decide (0 ≤ t - r.at_) && decide (t - r.at_ ≤ (r.FeedTrain.Steps.length : Int) - 1)) = false := by
      rw [Bool.eq_false_iff]; intro e; simp at e; exact hin (by omega)
    rw [e]
    exact ⟨_, rfl, .inl ⟨rfl, fun s => by unfold Jj; rw [if_neg hin]⟩⟩
theorem Quo {n : FeedNet} {l : List feed_run} (hn : n.Sections.length < 1000) (hl : l.length ≤ 8) (h : ∀ r ∈ l, Zq n.Sections.length r) {t : Int} (ht : 0 ≤ t) (ht2 : t ≤ 100000) :
    Qal ⟨n⟩ l t = some ((List.range n.Sections.length).map (Q3 l t)) := by
  have key : loop (Qcx l t) ((List.range n.Sections.length).map (fun _ => (0 : Int)), 0) = some ((List.range n.Sections.length).map (Q3 l t)) :=
    Je (fun k => ((List.range n.Sections.length).map (Q3 (l.take k) t), (k : Int))) l.length (fun k hk => by
      obtain ⟨o, ho, hc⟩ := QMn (h _ (List.getElem_mem hk)) ht ht2
      unfold Qcx
      simp only [XW hk, cond_true, XI hk, QE, ho]
      rw [X0 k (by omega)]
      rcases hc with ⟨h1, h2⟩ | ⟨h1, h2, h3, h4, h5, h6⟩
      · rw [h1, cond_false]
        congr 3
        apply List.map_congr_left
        intro s _
        rw [Qmi hk, h2 s]; simp
      · rw [h1, cond_true]
        have hs : o.1.Section.toNat < n.Sections.length := by omega
        have hsi : ((o.1.Section.toNat : Nat) : Int) = o.1.Section := by omega
        have hidx : idx ((List.range n.Sections.length).map (Q3 (l.take k) t)) o.1.Section = some (Q3 (l.take k) t o.1.Section.toNat) := by
          unfold idx; rw [if_pos h2]; simp [hs]
        have hb := Qgr (l := l.take k) (fun r hr => h r (List.mem_of_mem_take hr)) t o.1.Section.toNat
        have hlen : (l.take k).length ≤ 8 := by rw [List.length_take]; omega
        have hnew : w64 (Q3 (l.take k) t o.1.Section.toNat + o.1.Power) = Q3 (l.take (k + 1)) t o.1.Section.toNat := by
          rw [Qmi hk, h6, if_pos (by omega)]; exact Yr (by omega)
        rw [hidx, QE, QE, hnew, QKw (f := Q3 (l.take k) t) (g := Q3 (l.take (k + 1)) t) hs (fun i hi => by rw [Qmi hk, h6, if_neg (by omega)]; simp)]) (by
      unfold Qcx
      simp only [XX, cond_false, List.take_length])
  unfold Qal
  rw [Qlv _ hn, QE, key]; rfl
end Go.Gw

end
section
set_option maxRecDepth 4096
namespace Go.Gw
open Go
structure NetOk (n : FeedNet) : Prop where
  st0 : 0 < n.Stations.length
  st6 : n.Stations.length ≤ 6
  se0 : 0 < n.Sections.length
  se10 : n.Sections.length ≤ 10
  tr6 : n.Trains.length ≤ 6
  lim : ∀ s ∈ n.Stations, 0 ≤ s.Limit ∧ s.Limit ≤ 100000
  sec : ∀ s ∈ n.Sections, YI s n.Stations.length = 0
  tr : ∀ t ∈ n.Trains, JB t n.Sections.length = 0
theorem Qlf {f : Nat → Int} {n : Nat} (h : (match XH f n with | some i => f i | none => 0) = 0) : ∀ j, j < n → f j = 0 := by
  rcases Jb f n with ⟨h1, h2⟩ | ⟨i, h1, h2, h3, h4⟩
  · exact h2
  · rw [h1] at h; exact absurd h h3
theorem Qlx {n : FeedNet} (h : (YW n).2 = 0) : NetOk n := by
  unfold YW at h
  split at h
  · cases h
  · rename_i h1
    split at h
    · cases h
    · rename_i h2
      rcases Jb (Y0 n) n.Stations.length with ⟨a1, a2⟩ | ⟨i, a1, a2, a3, _⟩
      · rw [a1] at h
        rcases Jb (Y5 n) n.Sections.length with ⟨b1, b2⟩ | ⟨i, b1, b2, b3, _⟩
        · rw [b1] at h
          rcases Jb (Y2 n) n.Trains.length with ⟨c1, c2⟩ | ⟨i, c1, c2, c3, _⟩
          · refine ⟨by omega, by omega, by omega, by omega, by omega, fun s hs => ?_, fun s hs => ?_, fun t ht => ?_⟩
            · obtain ⟨k, hk, rfl⟩ := List.mem_iff_getElem.1 hs
              have := a2 k hk
              rw [show Y0 n k = stE n.Stations[k] ((n.Stations.take k).map (·.Name)) from Zu _ _ _ hk] at this
              unfold stE at this
              split at this
              · rename_i hc; exact absurd this hc
              · cases hb : (decide (0 ≤ n.Stations[k].Limit) && decide (n.Stations[k].Limit ≤ 100000)) with
                | true => simpa using hb
                | false => rw [hb] at this; cases this
            · obtain ⟨k, hk, rfl⟩ := List.mem_iff_getElem.1 hs
              have := b2 k hk
              rwa [show Y5 n k = YI n.Sections[k] n.Stations.length from Zu _ _ _ hk] at this
            · obtain ⟨k, hk, rfl⟩ := List.mem_iff_getElem.1 ht
              have := c2 k hk
              rw [show Y2 n k = trE n.Trains[k] ((n.Trains.take k).map (·.Name)) n.Sections.length from Zu _ _ _ hk] at this
              unfold trE at this
              split at this
              · rename_i hc; exact absurd this hc
              · exact this
          · rw [c1] at h; exact absurd h c3
        · rw [b1] at h; exact absurd h b3
      · rw [a1] at h; exact absurd h a3
theorem QNm {t : FeedTrain} {m : Nat} (h : JB t m = 0) : (0 ≤ t.Earliest ∧ t.Earliest ≤ 1000) ∧ (0 ≤ t.Latest ∧ t.Latest ≤ 1000) ∧ t.Earliest ≤ t.Latest ∧ 0 < t.Steps.length ∧ t.Steps.length ≤ 12 ∧ ∀ x ∈ t.Steps, 0 ≤ x.Section ∧ x.Section ≤ (m : Int) - 1 ∧ -20000 ≤ x.Power ∧ x.Power ≤ 20000 := by
  unfold JB Qxm at h
  cases h1 : (decide (0 ≤ t.Earliest) && decide (t.Earliest ≤ 1000)) with
  | false => rw [h1] at h; cases h
  | true =>
    cases h2 : (decide (0 ≤ t.Latest) && decide (t.Latest ≤ 1000)) with
    | false => rw [h1, h2] at h; cases h
    | true =>
      cases h3 : decide (t.Earliest ≤ t.Latest) with
      | false => rw [h1, h2, h3] at h; cases h
      | true =>
        cases h4 : decide (0 < (t.Steps.length : Int)) with
        | false => rw [h1, h2, h3, h4] at h; cases h
        | true =>
          cases h5 : decide ((t.Steps.length : Int) ≤ 12) with
          | false => rw [h1, h2, h3, h4, h5] at h; cases h
          | true =>
            rw [h1, h2, h3, h4, h5] at h
            simp only [Bool.and_self, Bool.not_true, cond_false] at h
            unfold Qhw at h
            have hz := Qlf h
            simp only [Bool.and_eq_true, decide_eq_true_eq] at h1 h2 h3 h4 h5
            refine ⟨h1, h2, h3, by omega, by omega, fun x hx => ?_⟩
            obtain ⟨k, hk, rfl⟩ := List.mem_iff_getElem.1 hx
            have := hz k hk
            rw [Qlk _ _ _ hk] at this
            unfold ZQ at this
            cases a : (decide (0 ≤ t.Steps[k].Section) && decide (t.Steps[k].Section ≤ (m : Int) - 1)) with
            | false => rw [a] at this; cases this
            | true =>
              cases b : (decide (-20000 ≤ t.Steps[k].Power) && decide (t.Steps[k].Power ≤ 20000)) with
              | false => rw [a, b] at this; cases this
              | true =>
                simp only [Bool.and_eq_true, decide_eq_true_eq] at a b
                exact ⟨a.1, a.2, b.1, b.2⟩
theorem QKk {n : FeedNet} (hn : NetOk n) {d : FeedDeparture} {o : List FeedDeparture} (h : ZG n d o = 0) : Zq n.Sections.length (Q7 n d) := by
  have h0 := Qjo h
  obtain ⟨t, h1, h2, h3⟩ := Qnn h0
  have ht := QNm (hn.tr t (List.mem_of_getElem? h1))
  unfold ZG at h
  rw [if_neg (by omega)] at h
  split at h
  · cases h
  · cases b : (decide (0 ≤ d.At) && decide (d.At ≤ 1000)) with
    | false => rw [b] at h; cases h
    | true =>
      simp only [Bool.and_eq_true, decide_eq_true_eq] at b
      unfold Zq Q7
      rw [h1]
      exact ⟨ht.2.2.2.2.2, ht.2.2.2.2.1, b.1, b.2⟩
end Go.Gw

end
section
set_option maxRecDepth 4096
namespace Go.Gw
open Go
structure LadOk (l : FeedLadder) : Prop where
  pos : 0 < l.Loads.length
  most : l.Loads.length ≤ 8
  len : l.Ohms.length = l.Loads.length + 1
  ohm : ∀ x ∈ l.Ohms, 1 ≤ x ∧ x ≤ 500
  load : ∀ x ∈ l.Loads, -20000 ≤ x ∧ x ≤ 20000
theorem Qdo {a b m n : Int} (ha : -m ≤ a ∧ a ≤ m) (hb : -n ≤ b ∧ b ≤ n) : -(m * n) ≤ a * b ∧ a * b ≤ m * n := by
  have h1 : a.natAbs ≤ m.natAbs := by omega
  have h2 : b.natAbs ≤ n.natAbs := by omega
  have h3 := Nat.mul_le_mul h1 h2
  rw [← Int.natAbs_mul, ← Int.natAbs_mul] at h3
  have h4 : 0 ≤ m * n := Int.mul_nonneg (by omega) (by omega)
  omega
def pk (l : FeedLadder) (k : Nat) : Int := (l.Loads.take k).sum
def lf (l : FeedLadder) : Nat → Int
  | 0 => 0
  | k + 1 => lf l k + l.Ohms.getD k 0 * pk l k
def rk (l : FeedLadder) : Nat → Int
  | 0 => 0
  | k + 1 => rk l k + l.Loads.getD k 0 * (l.Ohms.drop (k + 1)).sum
section
variable {l : FeedLadder} (h : LadOk l)
include h
end
noncomputable def QOz (l : FeedLadder) (A L : Int) (n : Nat) : List Frac := (List.range n).map fun i => QGi (L - pk l i * A) A
section
variable {l : FeedLadder} (h : LadOk l)
include h
end
end Go.Gw

end
section
set_option maxRecDepth 4096
namespace Go.Gw
open Go
def XQ (s : FeedSection) (p : Int) : Int := if p < 0 then p * (1000 - s.Loss) else p * (1000 + s.Loss)
def X6 (s : FeedSection) (k : Int) : Int := if s.Left = k then s.Share else if s.Right = k then 1000 - s.Share else 0
def JE (s : FeedSection) : Prop := (0 ≤ s.Share ∧ s.Share ≤ 1000) ∧ 0 ≤ s.Loss ∧ s.Loss ≤ 500
theorem Qhk {s : FeedSection} {n : Nat} (h : YI s n = 0) : JE s := by
  unfold YI Qdx at h
  have key : ((decide (0 ≤ s.Share) && decide (s.Share ≤ 1000)) && (decide (0 ≤ s.Loss) && decide (s.Loss ≤ 500))) = true := by
    cases hb : ((decide (0 ≤ s.Share) && decide (s.Share ≤ 1000)) && (decide (0 ≤ s.Loss) && decide (s.Loss ≤ 500))) with
    | true => rfl
    | false =>
      rw [hb] at h
      revert h
      generalize ((!(decide (s.Left = -1) || (decide (0 ≤ s.Left) && decide (s.Left ≤ (n : Int) - 1)))) || !(decide (s.Right = -1) || (decide (0 ≤ s.Right) && decide (s.Right ≤ (n : Int) - 1)))) = a
      generalize (decide (s.Left = -1) && decide (s.Right = -1)) = b
      generalize decide (s.Left = s.Right) = c
      cases a <;> cases b <;> cases c <;> intro h <;> cases h
  simp only [Bool.and_eq_true, decide_eq_true_eq] at key
  exact ⟨key.1, key.2⟩
theorem Qcn {s : FeedSection} (hs : JE s) {p : Int} (hp : -160000 ≤ p ∧ p ≤ 160000) : -240000000 ≤ XQ s p ∧ XQ s p ≤ 240000000 := by
  obtain ⟨_, h1, h2⟩ := hs
  unfold XQ
  split
  · have := Qdo (a := p) (b := 1000 - s.Loss) (m := 160000) (n := 1500) hp (by omega); omega
  · have := Qdo (a := p) (b := 1000 + s.Loss) (m := 160000) (n := 1500) hp (by omega); omega
theorem Qvn {s : FeedSection} (hs : JE s) (k : Int) : -1000 ≤ X6 s k ∧ X6 s k ≤ 1000 := by
  obtain ⟨h0, _⟩ := hs
  unfold X6
  split
  · omega
  · split <;> omega
theorem QAs {s : FeedSection} (hs : JE s) {p : Int} (hp : -160000 ≤ p ∧ p ≤ 160000) : Qbd s p = some (XQ s p) := by
  have hb := Qcn hs hp
  obtain ⟨_, h1, h2⟩ := hs
  unfold Qbd XQ at *
  by_cases h : p < 0
  · rw [if_pos h] at hb ⊢
    rw [decide_eq_true h, cond_true, Yr (x := 1000 - s.Loss) (by omega), Yr (by omega)]
  · rw [if_neg h] at hb ⊢
    rw [decide_eq_false h, cond_false, Yr (x := 1000 + s.Loss) (by omega), Yr (by omega)]
theorem QJo {s : FeedSection} (hs : JE s) (k : Int) : Qmn s k = some (X6 s k) := by
  obtain ⟨h0, _⟩ := hs
  unfold Qmn X6
  by_cases h1 : s.Left = k
  · rw [decide_eq_true h1, if_pos h1]; rfl
  · rw [decide_eq_false h1, if_neg h1]
    by_cases h2 : s.Right = k
    · rw [decide_eq_true h2, if_pos h2]
      simp only [cond_false, cond_true]
      rw [Yr (by omega)]
    · rw [decide_eq_false h2, if_neg h2]; rfl
theorem QAt {s : FeedSection} (hs : JE s) (k : Int) : Qbe s k = some (X6 s k) := by
  rw [← QJo hs k]
  unfold Qbe Qmn
  rw [show decide (k = s.Left) = decide (s.Left = k) from decide_eq_decide.2 eq_comm, show decide (k = s.Right) = decide (s.Right = k) from decide_eq_decide.2 eq_comm]
end Go.Gw

end
section
set_option maxRecDepth 4096
namespace Go.Gw
open Go
def X2 (secs : List FeedSection) (f : Nat → Int) (k : Nat) : Nat → Int
  | 0 => 0
  | j + 1 => X2 secs f k j + (secs[j]?.map fun s => XQ s (f j) * X6 s (k : Int)).getD 0
section
variable {secs : List FeedSection} {f : Nat → Int} (hs : ∀ s ∈ secs, JE s) (hf : ∀ j, -160000 ≤ f j ∧ f j ≤ 160000)
include hs hf
theorem QNj (k j : Nat) : -240000000000 ≤ (secs[j]?.map fun s => XQ s (f j) * X6 s (k : Int)).getD 0 ∧ (secs[j]?.map fun s => XQ s (f j) * X6 s (k : Int)).getD 0 ≤ 240000000000 := by
  by_cases hj : j < secs.length
  · rw [List.getElem?_eq_getElem hj]
    have h1 := hs _ (List.getElem_mem hj)
    have := Qdo (Qcn h1 (hf j)) (Qvn h1 (k : Int))
    simp only [Option.map_some, Option.getD_some]
    omega
  · rw [List.getElem?_eq_none (Nat.le_of_not_lt hj)]; simp
theorem Qlr (k : Nat) : ∀ j : Nat, -(240000000000 * (j : Int)) ≤ X2 secs f k j ∧ X2 secs f k j ≤ 240000000000 * (j : Int)
  | 0 => by simp [X2]
  | j + 1 => by
    have h1 := Qlr k j
    have h2 := QNj hs hf k j
    simp only [X2]
    omega
end
theorem QFq {secs : List FeedSection} {f : Nat → Int} {k j : Nat} (hj : j < secs.length) : (secs[j]?.map fun s => XQ s (f j) * X6 s (k : Int)).getD 0 = XQ secs[j] (f j) * X6 secs[j] (k : Int) := by
  rw [List.getElem?_eq_getElem hj]; rfl
theorem Qur (m j : Nat) (hj : j < m) (f g : Nat → Int) : ((List.range m).map fun i => if i < j then g i else f i).set j (g j) = (List.range m).map fun i => if i < j + 1 then g i else f i := by
  apply List.ext_getElem?
  intro i
  by_cases hi : i = j
  · subst hi
    rw [List.getElem?_set_self (by simpa using hj)]
    simp [hj]
  · rw [List.getElem?_set_ne (Ne.symm hi)]
    by_cases him : i < m
    · simp only [List.getElem?_map, List.getElem?_range him, Option.map_some, Option.some.injEq]
      by_cases h1 : i < j
      · rw [if_pos h1, if_pos (by omega)]
      · rw [if_neg h1, if_neg (by omega)]
    · simp [him]
theorem Qst (m j : Nat) (hj : j < m) (f g : Nat → Int) : idx ((List.range m).map fun i => if i < j then g i else f i) (j : Int) = some (f j) := by
  rw [XI?]
  simp [hj]
theorem QAu {s : FeedSection} (hs : JE s) {p : Int} (hp : -160000 ≤ p ∧ p ≤ 160000) {m : Nat} (hm : m < 1000) {f : Nat → Int} (hf : ∀ i, -1000000000000000 ≤ f i ∧ f i ≤ 1000000000000000) :
    loop (Qbg p s ((List.range m).map f)) ((List.range m).map f, 0) = some ((List.range m).map fun i => f i + XQ s p * X6 s (i : Int)) := by
  have e0 : ((List.range m).map fun i => if i < 0 then f i + XQ s p * X6 s (i : Int) else f i) = (List.range m).map f := by
    apply List.map_congr_left; intro i _; simp
  have eN : ((List.range m).map fun i => if i < m then f i + XQ s p * X6 s (i : Int) else f i) = (List.range m).map fun i => f i + XQ s p * X6 s (i : Int) := by
    apply List.map_congr_left; intro i hi; rw [if_pos (List.mem_range.1 hi)]
  have hlen : (((List.range m).map f).length : Int) = (m : Int) := by simp
  have key := Je (step := Qbg p s ((List.range m).map f)) (o := (List.range m).map fun i => f i + XQ s p * X6 s (i : Int)) (fun j => ((List.range m).map fun i => if i < j then f i + XQ s p * X6 s (i : Int) else f i, (j : Int))) m (fun j hj => by
    have hb := Qdo (Qcn hs hp) (Qvn hs (j : Int))
    have hfj := hf j
    unfold Qbg
    simp only [hlen, XW hj, cond_true, Qst m j hj f (fun i => f i + XQ s p * X6 s (i : Int)), QE]
    rw [QAs hs hp, QE, QAt hs, QE, Yr (x := XQ s p * X6 s (j : Int)) (by omega), Yr (x := f j + XQ s p * X6 s (j : Int)) (by omega), X0 j (by omega)]
    simp only [Int.toNat_natCast]
    rw [Qur m j hj f (fun i => f i + XQ s p * X6 s (i : Int))]) (by
    unfold Qbg
    simp only [hlen, XX, cond_false, eN])
  simp only [e0] at key
  exact key
def X3 (n : FeedNet) (f : Nat → Int) : List Int := (List.range n.Stations.length).map fun k => X2 n.Sections f k n.Sections.length
theorem QAw {n : FeedNet} (hn : NetOk n) {l : List feed_run} (hl : l.length ≤ 8) (h : ∀ r ∈ l, Zq n.Sections.length r) {t : Int} (ht : 0 ≤ t) (ht2 : t ≤ 100000) : Qbh ⟨n⟩ l t = some (X3 n (Q3 l t)) := by
  have h1 := hn.st6
  have h2 := hn.se10
  have hs : ∀ s ∈ n.Sections, JE s := fun s hx => Qhk (hn.sec s hx)
  have hf : ∀ j, -160000 ≤ Q3 l t j ∧ Q3 l t j ≤ 160000 := fun j => by have := Qgr h t j; omega
  have hlen : (((List.range n.Sections.length).map (Q3 l t)).length : Int) = (n.Sections.length : Int) := by simp
  have key : loop (Qcw ⟨n⟩ ((List.range n.Sections.length).map (Q3 l t))) ((List.range n.Stations.length).map (fun _ => (0 : Int)), 0) = some (X3 n (Q3 l t)) :=
    Je (fun j => ((List.range n.Stations.length).map (fun k => X2 n.Sections (Q3 l t) k j), (j : Int))) n.Sections.length (fun j hj => by
      have hb : ∀ k, -1000000000000000 ≤ X2 n.Sections (Q3 l t) k j ∧ X2 n.Sections (Q3 l t) k j ≤ 1000000000000000 := fun k => by have := Qlr hs hf k j; omega
      have hidx : idx ((List.range n.Sections.length).map (Q3 l t)) (j : Int) = some (Q3 l t j) := by rw [XI?]; simp [hj]
      unfold Qcw
      simp only [hlen, XW hj, cond_true, hidx, QE, XI hj]
      rw [QAu (hs _ (List.getElem_mem hj)) (hf j) (by omega) hb, QE, X0 j (by omega)]
      congr 3
      apply List.map_congr_left
      intro k _
      simp only [X2, QFq hj]) (by
      unfold Qcw X3
      simp only [hlen, XX, cond_false])
  unfold Qbh
  show (Option.bind (mk (n.Stations.length : Int) (0 : Int)) _) = _
  rw [Qlv _ (by omega), QE, Quo (by omega) hl h ht ht2, QE, key]
  rfl
end Go.Gw

end
section
set_option maxRecDepth 4096
namespace Go.Gw
open Go
def pd (t : Int) (s : Nat) (r : feed_run) : List Int := if 0 ≤ t - r.at_ ∧ t - r.at_ ≤ (r.FeedTrain.Steps.length : Int) - 1 then (match r.FeedTrain.Steps[(t - r.at_).toNat]? with | some x => if x.Section = (s : Int) then [x.Power] else [] | none => []) else []
end Go.Gw

end
section
set_option maxRecDepth 4096
namespace Go.Gw
open Go
theorem Qph {α : Type} [DecidableEq α] : ∀ (a b : List α) (hl : a.length = b.length) (k : Nat), (jn0 (XM (fun (x : α × α) => !decide (x.1 = x.2)) (fun _ _ => false) k (a.zip b)) fun (_ : Unit) => some true) = some (decide (a = b))
  | [], [], _, k => by simp [XM, jn0]
  | [], _ :: _, hl, _ => by simp at hl
  | _ :: _, [], hl, _ => by simp at hl
  | x :: a, y :: b, hl, k => by
    by_cases hxy : x = y
    · subst hxy
      have := Qph a b (by simpa using hl) (k + 1)
      simp only [List.zip_cons_cons, XM]
      simpa using this
    · simp [XM, hxy, jn0]
theorem Qyc {α : Type} {a b : List α} (hl : a.length = b.length) : (a.zip b).length = a.length := by simp [hl]
noncomputable def Qpa (f : Frac) : Int := if 0 < f.Den ∧ Qof f.Num f.Den = some 1 then (if -1000000000 ≤ f.Num ∧ f.Num ≤ 1000000000 ∧ f.Den ≤ 1000000000 then 0 else 2) else 3
noncomputable def Qzw : List Frac → Int
  | [] => 0
  | f :: l => if Qpa f = 0 then Qzw l else Qpa f
end Go.Gw

end
section
set_option maxRecDepth 4096
namespace Go.Gw
open Go
def ZY (n : FeedNet) (l : List FeedDeparture) : Int := if 6 < l.length then 8 else match XH (Yv n l) l.length with | some i => Yv n l i | none => 0
def Zb (n : FeedNet) (l : List FeedDeparture) : Int := if (YW n).2 ≠ 0 then (YW n).2 else ZY n l
def Qhj (n : FeedNet) (s : Int) : Int := if 0 ≤ s ∧ s ≤ (n.Sections.length : Int) - 1 then 0 else 6
def JR (t : Int) : Int := if 0 ≤ t ∧ t ≤ 1012 then 0 else 2
theorem Qno (a b : Prop) [Decidable a] [Decidable b] : (decide a && decide b) = decide (a ∧ b) := (Bool.decide_and a b).symm
theorem Qpj (t : Int) : J2 t = some (JR t) := by
  unfold J2 JR
  rw [JT, QE, Ji, QE, Qno]
  by_cases h : 0 ≤ t ∧ t ≤ 1012 <;> simp [h]
theorem QJq (t : Int) : Qhd t = some (JR t) := by
  unfold Qhd JR
  rw [Qai, QE, Qno]
  by_cases h : 0 ≤ t ∧ t ≤ 1012 <;> simp [h]
theorem QAy {n : FeedNet} (hn : n.Sections.length < 1000) (s : Int) : Qfs ⟨n⟩ s = some (Qhj n s) := by
  unfold Qfs Qhj
  simp only []
  rw [Yr (x := (n.Sections.length : Int) - 1) (by omega), JT, QE, Ji, QE, Qno]
  by_cases h : 0 ≤ s ∧ s ≤ (n.Sections.length : Int) - 1 <;> simp [h]
theorem Qug {n : FeedNet} (h : NetS n) (l : List FeedDeparture) : J1 n l = some (⟨n⟩, (if Zb n l = 0 then l.map (Q7 n) else []), Zb n l) := by
  unfold J1 Qdb Zb
  rw [QAr h, QE, QE]
  by_cases h0 : (YW n).2 = 0
  · simp only [h0, ne_eq, not_true_eq_false, if_false, decide_true, Bool.not_true, cond_false]
    rw [show feed_net.mk (FeedNet.mk n.Stations n.Sections n.Trains) = feed_net.mk n from rfl, QAx n l h.tr, QE]
    unfold ZY
    by_cases h6 : 6 < l.length
    · simp [h6]
    · rw [if_neg h6, if_neg h6]
      rcases Jb (Yv n l) l.length with ⟨e, _⟩ | ⟨i, e, _, hi, _⟩
      · rw [e]; simp
      · rw [e]; simp [hi]
  · simp [h0]
theorem QJj {n : FeedNet} (h : NetS n) (l : List FeedDeparture) : Qgs n l = some (Zb n l) := by
  unfold Qgs Qmk Zb ZY
  rw [QJl h, QE]
  by_cases h0 : (YW n).2 = 0
  · simp only [h0, ne_eq, not_true_eq_false, if_false, decide_true, Bool.not_true, cond_false, QE]
    rw [QJk n l h.tr, QE]
    by_cases h6 : 6 < l.length
    · rw [if_pos h6, if_pos h6]
    · rw [if_neg h6, if_neg h6]
      cases XH (Yv n l) l.length <;> rfl
  · simp [h0]
theorem QFu (a b : List Int) (ha : a.length < 1000000) : Qah a b = some (decide (a = b)) := by
  unfold Qah
  by_cases hl : a.length = b.length
  · rw [decide_eq_true (by omega), Bool.not_true, cond_false, ZL (a.zip b) (fun x => !decide (x.1 = x.2)) (fun _ _ => false), QE, Qph a b hl]
    · intro k hk
      rw [Qyc hl] at hk
      unfold Qeq
      rw [XW hk, cond_true, XI hk, QE, XI (show k < b.length by omega), QE, X0 k (by omega)]
      simp only [List.getElem_zip]
    · rw [Qyc hl]
      unfold Qeq
      rw [XX]; rfl
  · rw [decide_eq_false (by omega)]
    simp only [Bool.not_false, cond_true]
    rw [decide_eq_false]
    intro e; exact hl (by rw [e])
theorem QFm (a b : Int) : YR [a, b] = if a ≠ 0 then a else b := by
  unfold YR YR YR; by_cases h : a = 0 <;> by_cases h2 : b = 0 <;> simp [h, h2]
theorem QFn (a b c : Int) : YR [a, b, c] = if a ≠ 0 then a else if b ≠ 0 then b else c := by
  unfold YR YR YR YR; by_cases h : a = 0 <;> by_cases h2 : b = 0 <;> by_cases h3 : c = 0 <;> simp [h, h2, h3]
theorem Qbb {n : FeedNet} {l : List FeedDeparture} (h : Zb n l = 0) : NetOk n ∧ l.length ≤ 6 ∧ ∀ d ∈ l, Zq n.Sections.length (Q7 n d) ∧ 0 ≤ Yq n d.Train := by
  unfold Zb at h
  by_cases h0 : (YW n).2 = 0
  · have hn := Qlx h0
    simp only [h0, ne_eq, not_true_eq_false, if_false] at h
    unfold ZY at h
    by_cases h6 : 6 < l.length
    · rw [if_pos h6] at h; omega
    · rw [if_neg h6] at h
      refine ⟨hn, by omega, fun d hd => ?_⟩
      obtain ⟨k, hk, rfl⟩ := List.getElem_of_mem hd
      have hz := Qlf h k hk
      unfold Yv at hz
      rw [List.getElem?_eq_getElem hk] at hz
      exact ⟨QKk hn hz, Qjo hz⟩
  · rw [if_pos h0] at h; exact absurd h h0
end Go.Gw

end
section
set_option maxRecDepth 4096
namespace Go.Gw
open Go
def QPg (n : FeedNet) (s : Int) : Int := if 0 ≤ s ∧ s ≤ (n.Stations.length : Int) - 1 then 0 else 6
def onI (r : feed_run) (t : Int) : Bool := decide (0 ≤ t - r.at_) && decide (t - r.at_ ≤ (r.FeedTrain.Steps.length : Int) - 1)
def Qlq (n : FeedNet) (l : List FeedDeparture) (t : Int) (s : Nat) : Int := X2 n.Sections (Q3 (l.map (Q7 n)) t) s n.Sections.length
structure Rt (n : FeedNet) (l : List FeedDeparture) : Prop where
  ne : NetOk n
  tr : n.Trains.length < 1000
  l6 : l.length ≤ 6
  ru : ∀ d ∈ l, Zq n.Sections.length (Q7 n d) ∧ 0 ≤ Yq n d.Train
theorem QKh {n : FeedNet} (h : NetS n) {l : List FeedDeparture} (hb : Zb n l = 0) : Rt n l := ⟨(Qbb hb).1, h.tr, (Qbb hb).2.1, (Qbb hb).2.2⟩
section
variable {n : FeedNet} {l : List FeedDeparture} (h : Rt n l)
include h
theorem QKi : ∀ r ∈ l.map (Q7 n), Zq n.Sections.length r := fun r hr => by obtain ⟨d, hd2, rfl⟩ := List.mem_map.1 hr; exact (h.ru d hd2).1
def pkF (n : FeedNet) (l : List FeedDeparture) (s : Nat) (k : Nat) (a : Int × Int) : Int × Int := if a.2 < Qlq n l ((k : Int) + 1) s then ((k : Int) + 1, Qlq n l ((k : Int) + 1) s) else a
def QPe (n : FeedNet) (l : List FeedDeparture) (s : Nat) : Int × Int := rng (pkF n l s) (0, Qlq n l 0 s) 1012
end
end Go.Gw

end
section
set_option maxRecDepth 4096
namespace Go.Gw
open Go
def fsO {α ρ μ : Type} (o : Option α) (res : α → ρ) (u : μ) : ρ ⊕ μ := match o with | some a => .inl (res a) | none => .inr u
def loF (a : Int) (r : feed_run) : Int := if r.at_ < a then r.at_ else a
def hiF (a : Int) (r : feed_run) : Int := if a < r.at_ + 12 then r.at_ + 12 else a
def loR (rs : List feed_run) : Int := rs.foldl loF 1012
def hiR (rs : List feed_run) : Int := rs.foldl hiF 0
def QGg (n : FeedNet) (k : Nat) : Int := (n.Stations[k]?.map (·.Limit)).getD 0
def ldR (n : FeedNet) (rs : List feed_run) (t : Int) (k : Nat) : Int := X2 n.Sections (Q3 rs t) k n.Sections.length
def ov1 (n : FeedNet) (rs : List feed_run) (t : Int) (k : Nat) : Option FeedPeak := if 1000000 * QGg n k < ldR n rs t k then some (FeedPeak.mk t k (ldR n rs t k)) else none
def ovS (n : FeedNet) (rs : List feed_run) (t : Int) : Option FeedPeak := (List.range n.Stations.length).findSome? (ov1 n rs t)
def ovR (n : FeedNet) (rs : List feed_run) : Option FeedPeak := (List.range (hiR rs - loR rs + 1).toNat).findSome? fun (j : Nat) => ovS n rs (loR rs + j)
def pkB (o : Option FeedPeak) : FeedPeak × Bool := match o with | some p => (p, true) | none => (FeedPeak.mk 0 0 0, false)
def mnF (a r : feed_run) : feed_run := if r.at_ < a.at_ then r else a
def mxF (a r : feed_run) : feed_run := if a.at_ < r.at_ then r else a
def QPb (r : feed_run) : ByteArray × Int × Int × List FeedStep × Int := (r.FeedTrain.Name, r.FeedTrain.Earliest, r.FeedTrain.Latest, r.FeedTrain.Steps, r.at_)
section
variable {n : FeedNet} {rs : List feed_run} (hn : NetOk n) (hl : rs.length ≤ 8) (h : ∀ r ∈ rs, Zq n.Sections.length r)
include hn
end
section
variable {n : FeedNet} {l : List FeedDeparture} (h : Rt n l)
include h
end
end Go.Gw

end
