/- Laws of the walk. Condition: each theorem says its own. -/
import Derived.Test.YtbplgfhjpeeieaaGwTwin
import Derived.Test.YtbplgfhjpeeieaaGwPlan
import Derived.IntWalk
set_option linter.unusedVariables false
set_option linter.unusedSimpArgs false
set_option linter.unusedSectionVars false
section
set_option maxRecDepth 1000000
namespace Go.Gw
open Go
theorem QAd : Qtt 60 = some true := by decide +kernel
theorem QAc : Qgv = some true := QHk _ QAd
end Go.Gw

end
section
set_option linter.unusedSectionVars false
namespace Go.Gw
open Go

theorem XS {x : Int} (h : -9223372036854775808 ≤ x ∧ x ≤ 9223372036854775807) : w64 x = x := Go.IntWalk.i64_in x h

def Runs {α : Type} (e : Option α) (Q : α → Prop) : Prop := ∃ a, e = some a ∧ Q a

section
variable {α β σ μ : Type} {Q : α → Prop} {e e' : Option α}
theorem Runs.some {a : α} (h : Q a) : Runs (some a) Q := ⟨a, rfl, h⟩
theorem Runs.bind {e : Option β} {f : β → Option α} (h : Runs e fun b => Runs (f b) Q) : Runs (e.bind f) Q := by
  obtain ⟨b, rfl, a, ha, hq⟩ := h; exact ⟨a, ha, hq⟩
theorem Runs.mono {Q' : α → Prop} (h : Runs e Q) (hm : ∀ a, Q a → Q' a) : Runs e Q' := by obtain ⟨a, ha, hq⟩ := h; exact ⟨a, ha, hm _ hq⟩
theorem Runs.eq {a : α} (h : Runs e (· = a)) : e = .some a := by obtain ⟨b, hb, rfl⟩ := h; exact hb
theorem Runs.call {e : Option β} {f : β → Option α} {b : β} (h : e = .some b) (hq : Runs (f b) Q) : Runs (e.bind f) Q := by subst h; exact hq
theorem Runs.bif {b : Bool} (ht : b = true → Runs e Q) (hf : b = false → Runs e' Q) : Runs (bif b then e else e') Q := by
  cases b
  · exact hf rfl
  · exact ht rfl
theorem Runs.jl {b : α} {f : μ → Option α} (h : Q b) : Runs (jn0 (.inl b) f) Q := ⟨b, rfl, h⟩
theorem Runs.j {o : α ⊕ μ} {f : μ → Option α} (hl : ∀ b, o = .inl b → Q b) (hr : ∀ m, o = .inr m → Runs (f m) Q) : Runs (jn0 o f) Q := by
  cases o with
  | inl b => exact Runs.jl (hl b rfl)
  | inr m => exact hr m rfl

def Rnd (I : σ → Prop) (m : σ → Nat) (Q : β → Prop) (s : σ) : σ ⊕ β → Prop
  | .inl s' => I s' ∧ m s' < m s
  | .inr o => Q o
theorem Runs.loop {step : σ → Option (σ ⊕ β)} {s : σ} {Q : β → Prop} (I : σ → Prop) (m : σ → Nat) (h0 : I s) (h : ∀ s, I s → Runs (step s) (Rnd I m Q s)) : Runs (Gw.loop step s) Q := by
  generalize hk : m s = k
  induction k using Nat.strongRecOn generalizing s with
  | _ k ih =>
    obtain ⟨x, hx, hq⟩ := h s h0
    cases x with
    | inl s' =>
      rw [Qgx hx]
      exact ih (m s') (by have := hq.2; omega) hq.1 rfl
    | inr o => rw [Qbt hx]; exact ⟨o, rfl, hq⟩
theorem Je {step : σ → Option (σ ⊕ β)} {o : β} (S : Nat → σ) (n : Nat) (h : ∀ k, k < n → step (S k) = .some (.inl (S (k + 1)))) (he : step (S n) = .some (.inr o)) : Gw.loop step (S 0) = .some o := by
  have key : ∀ j k, j + k = n → Gw.loop step (S k) = .some o := by
    intro j
    induction j with
    | zero => intro k hk; obtain rfl : k = n := by omega
              exact Qbt he
    | succ j ih => intro k hk; rw [Qgx (h k (by omega))]; exact ih (k + 1) (by omega)
  exact key n 0 (by omega)

theorem Runs.idx {xs : List β} {i : Int} {f : β → Option α} (h0 : 0 ≤ i) (h1 : i < xs.length) (h : ∀ x, xs[i.toNat]? = .some x → Runs (f x) Q) : Runs ((Gw.idx xs i).bind f) Q := by
  have hl : i.toNat < xs.length := by omega
  have e : Gw.idx xs i = .some xs[i.toNat] := by unfold Gw.idx; rw [if_pos h0, List.getElem?_eq_getElem hl]
  exact Runs.call e (h _ (List.getElem?_eq_getElem hl))
theorem Yb {xs : List β} {k : Nat} (h : k < xs.length) : Gw.idx xs (k : Int) = .some xs[k] := by
  unfold Gw.idx; rw [if_pos (by omega), Int.toNat_natCast, List.getElem?_eq_getElem h]
theorem Qbf {xs ys : List β} (h : xs.length + ys.length ≤ 1073741824) : app xs ys = .some (xs ++ ys) := by unfold app; rw [if_pos h]
end
end Go.Gw

end
section
set_option linter.unusedSectionVars false
namespace Go.Gw
section
variable {α β γ σ ρ : Type}
def X5 (p : α → Bool) (res : Nat → α → ρ) : Nat → List α → ρ ⊕ Unit
  | _, [] => .inr ()
  | k, x :: xs => if p x then .inl (res k x) else X5 p res (k + 1) xs
theorem ZZ {step : Int → Option (Int ⊕ (ρ ⊕ Unit))} (xs : List α) (p : α → Bool) (res : Nat → α → ρ)
    (hs : ∀ k (hk : k < xs.length), step (k : Int) = (bif p xs[k] then some (.inr (.inl (res k xs[k]))) else some (.inl ((k + 1 : Nat) : Int))))
    (he : step (xs.length : Int) = some (.inr (.inr ()))) : loop step 0 = some (X5 p res 0 xs) := by
  have key : ∀ j k, j + k = xs.length → loop step (k : Int) = some (X5 p res k (xs.drop k)) := by
    intro j
    induction j with
    | zero =>
      intro k hk
      obtain rfl : k = xs.length := by omega
      rw [List.drop_length]
      exact Qbt he
    | succ j ih =>
      intro k hk
      have hlt : k < xs.length := by omega
      rw [List.drop_eq_getElem_cons hlt]
      have := hs k hlt
      cases hp : p xs[k] with
      | true => rw [hp] at this; simp only [X5, hp, if_true]; exact Qbt this
      | false => rw [hp] at this; simp only [X5, hp]; rw [Qgx this]; exact ih (k + 1) (by omega)
  have := key xs.length 0 (by omega)
  simpa using this

def fld (f : Nat → γ → α → γ) : Nat → γ → List α → γ
  | _, a, [] => a
  | k, a, x :: xs => fld f (k + 1) (f k a x) xs
def rng (f : Nat → γ → γ) (a : γ) : Nat → γ
  | 0 => a
  | n + 1 => f n (rng f a n)
theorem XZ (k : Nat) (h : k < 4611686018427387904) : w64 ((k : Int) + 1) = ((k + 1 : Nat) : Int) := by rw [XS (by omega)]; omega
theorem X3 {k n : Nat} (h : k < n) : decide ((k : Int) < (n : Int)) = true := by simp; omega
theorem X4 (n : Nat) : decide ((n : Int) < (n : Int)) = false := by simp
end
end Go.Gw

end
section
set_option maxRecDepth 4096
namespace Go.Gw
open Go

def YS : List Int → Int
  | [] => 0
  | x :: xs => if x = 0 then YS xs else x
theorem Jt (l : List Int) (hl : l.length < 1073741824) : YR l = some (YS l) := by
  unfold YR
  rw [ZZ l (fun x => !decide (x = 0)) (fun _ x => x)]
  · have key : ∀ (l : List Int) k, (jn0 (X5 (fun x => !decide (x = 0)) (fun _ x => x) k l) fun (_ : Unit) => some 0) = some (YS l) := by
      intro l
      induction l with
      | nil => intro k; rfl
      | cons x xs ih =>
        intro k
        by_cases h : x = 0
        · simp [X5, YS, h]; exact ih _
        · simp [X5, YS, h, jn0]
    simpa using key l 0
  · intro k hk
    unfold Qfy
    rw [X3 hk, Yb hk, XZ k (by omega)]; rfl
  · unfold Qfy
    rw [X4]; rfl
theorem Z7 (b : Bool) (e : Int) : X0 b e = some (bif b then 0 else e) := by cases b <;> rfl
theorem Qac (n lo hi : Int) : Zd n lo hi = some (decide (lo ≤ n) && decide (n ≤ hi)) := rfl
theorem Qam (n lo hi : Int) : ZT n lo hi = some (decide (lo ≤ n) && decide (n ≤ hi)) := rfl
theorem QNo (n m : Int) (h : 0 ≤ m) (h2 : m ≤ 9223372036854775807) : Qbl n m = some (decide (-m ≤ n) && decide (n ≤ m)) := by
  unfold Qbl
  rw [XS (by omega), Qac, Int.zero_sub]; rfl
theorem Qno {α : Type} (p : α → Bool) : ∀ (l : List α) (k : Nat), (jn0 (β := Int) (X5 p (fun k _ => (k : Int)) k l) fun (_ : Unit) => some (-1)) = some (match X5 p (fun k _ => (k : Int)) k l with | .inl i => i | .inr _ => -1)
  | l, k => by cases X5 p (fun k _ => (k : Int)) k l <;> rfl
theorem Qnn {α : Type} (p : α → Bool) : ∀ (l : List α) (k : Nat), decide (0 ≤ (match X5 p (fun k _ => (k : Int)) k l with | .inl i => i | .inr _ => (-1 : Int))) = l.any p
  | [], k => by simp [X5]
  | x :: xs, k => by
    by_cases h : p x = true
    · simp [X5, h]
    · simp only [X5, h, List.any_cons]
      have := Qnn p xs (k + 1)
      simpa [h] using this
theorem JP {α ρ : Type} {p : α → Bool} {res : Nat → α → ρ} : ∀ (l : List α) (k : Nat), (X5 p res k l = .inr () ∧ l.any p = false) ∨ ∃ j x, X5 p res k l = .inl (res j x) ∧ p x = true ∧ l.any p = true
  | [], k => .inl ⟨rfl, rfl⟩
  | x :: xs, k => by
    by_cases h : p x = true
    · exact .inr ⟨k, x, by simp [X5, h], h, by simp [h]⟩
    · rcases JP xs (k + 1) (p := p) (res := res) with ⟨h1, h2⟩ | ⟨j, y, h1, h2, h3⟩
      · exact .inl ⟨by simp [X5, h, h1], by simp [h, h2]⟩
      · exact .inr ⟨j, y, by simp [X5, h, h1], h2, by simp [h3]⟩
/-! ### Ladders -/
def QHg (l : FeedLadder) : Bool := (l.Ohms.any fun n => !(decide (1 ≤ n) && decide (n ≤ 500))) || (l.Loads.any fun n => !(decide (-20000 ≤ n) && decide (n ≤ 20000)))
def QQh (l : FeedLadder) : Int := if ¬ (0 < l.Loads.length ∧ l.Ohms.length = l.Loads.length + 1) then 10 else if 8 < l.Loads.length then 8 else if QHg l then 2 else 0
end Go.Gw

end
section
set_option maxRecDepth 4096
namespace Go.Gw
open Go
def Yj (f : Nat → Int) (n : Nat) : Option Nat := (List.range n).find? fun i => decide (f i ≠ 0)
theorem J3 (f : Nat → Int) (n : Nat) : (Yj f n = none ∧ ∀ j, j < n → f j = 0) ∨ ∃ i, Yj f n = some i ∧ i < n ∧ f i ≠ 0 ∧ ∀ j, j < i → f j = 0 := by
  cases h : Yj f n with
  | none =>
    refine .inl ⟨rfl, fun j hj => ?_⟩
    have := List.find?_eq_none.1 h j (List.mem_range.2 hj)
    simpa using this
  | some i =>
    right
    obtain ⟨h1, h2, h3⟩ := List.find?_range_eq_some.1 h
    exact ⟨i, rfl, List.mem_range.1 h2, by simpa using h1, fun j hj => by have := h3 j hj; simpa using this⟩
theorem J7 {σ ρ μ : Type} {step : σ → Option (σ ⊕ (ρ ⊕ μ))} (S : Nat → σ) (n : Nat) (f : Nat → Int) (res : Nat → Int → ρ) (o : μ)
    (hs : ∀ k, k < n → (∀ j, j < k → f j = 0) → step (S k) = if f k = 0 then some (.inl (S (k + 1))) else some (.inr (.inl (res k (f k))))) (he : (∀ j, j < n → f j = 0) → step (S n) = some (.inr (.inr o))) :
    loop step (S 0) = some (match Yj f n with | some i => .inl (res i (f i)) | none => .inr o) := by
  rcases J3 f n with ⟨h1, h2⟩ | ⟨i, h1, h2, h3, h4⟩
  · rw [h1]
    exact Je S n (fun k hk => by rw [hs k hk fun j hj => h2 j (by omega), if_pos (h2 k hk)]) (he h2)
  · rw [h1]
    exact Je S i (fun k hk => by rw [hs k (by omega) fun j hj => h4 j (by omega), if_pos (h4 k hk)]) (by rw [hs i h2 h4, if_neg h3])
/-! ### Names -/
def Qcl (q : Int × Nat) : Bool := (!(((decide (97 ≤ q.1)) && (decide (q.1 ≤ 122))) || ((decide (65 ≤ q.1)) && (decide (q.1 ≤ 90))))) && ((decide ((q.2 : Int) = 0)) || ((!decide (q.1 = 45)) && ((decide (q.1 < 48)) || (decide (57 < q.1)))))
def bi (s : ByteArray) : List Int := bl s
theorem Qfd (s : ByteArray) : (bi s).length = s.size := J1 s
theorem Qtm {s : ByteArray} {k : Nat} (h : k < (bi s).length) : idx (α := Int) (bl s) (k : Int) = some (bi s)[k] := Yb (xs := bi s) h
def J9 (s : ByteArray) : Bool := decide (1 ≤ s.size) && (decide (s.size ≤ 12) && !((bi s).zipIdx.any Qcl))
theorem Qwx (s : ByteArray) : s = ByteArray.mk #[] ↔ s.size = 0 := by
  constructor
  · intro h; subst h; rfl
  · intro h
    cases s with
    | mk d =>
      congr 1
      exact Array.eq_empty_of_size_eq_zero h
theorem Qoi (s : ByteArray) : Qcm s = some (J9 s) := by
  unfold Qcm J9
  have hlen : (bi s).zipIdx.length = s.size := by rw [List.length_zipIdx, Qfd]
  by_cases h : 1 ≤ s.size ∧ s.size ≤ 12
  · have : (decide ((s.size : Int) < 1) || decide (12 < (s.size : Int))) = false := by
      rw [decide_eq_false (by omega), decide_eq_false (by omega)]; rfl
    rw [this, cond_false, ZZ (bi s).zipIdx Qcl (fun _ _ => false), QL]
    · rcases JP (p := Qcl) (res := fun _ _ => false) (bi s).zipIdx 0 with ⟨k1, k2⟩ | ⟨j, x, k1, k2, k3⟩
      · rw [k1, k2]; simp [h, jn0]
      · rw [k1, k3]; simp [jn0]
    · intro k hk
      rw [hlen] at hk
      unfold Qjp
      rw [X3 hk, cond_true, Qtm (show k < (bi s).length by rw [Qfd]; exact hk), QL, XZ k (by omega)]
      simp only [List.getElem_zipIdx, Nat.zero_add]
      rfl
    · rw [hlen]
      unfold Qjp
      rw [X4]; rfl
  · have : (decide ((s.size : Int) < 1) || decide (12 < (s.size : Int))) = true := by
      by_cases h1 : s.size < 1
      · rw [decide_eq_true (by omega)]; rfl
      · rw [decide_eq_true (p := 12 < (s.size : Int)) (by omega)]; simp
    rw [this, cond_true]
    congr 1
    by_cases h1 : 1 ≤ s.size
    · rw [decide_eq_false (p := s.size ≤ 12) (by omega)]; simp
    · rw [decide_eq_false h1]; rfl
theorem QCc (s : ByteArray) (hs : s.size ≤ 1000) : Qdb s = some (J9 s) := by
  unfold Qdb J9
  have hlen : (bi s).zipIdx.length = s.size := by rw [List.length_zipIdx, Qfd]
  have ht : tob s = some (bl s) := by unfold tob; rw [if_pos (by omega)]
  rw [ht, QL, ZZ (bi s).zipIdx Qcl (fun _ _ => false), QL]
  · rcases JP (p := Qcl) (res := fun _ _ => false) (bi s).zipIdx 0 with ⟨k1, k2⟩ | ⟨j, x, k1, k2, k3⟩
    · rw [k1, k2]
      simp only [jn0, Bool.not_false, Bool.and_true, Option.some.injEq]
      by_cases h0 : s.size = 0
      · rw [decide_eq_true ((Qwx s).2 h0), decide_eq_false (show ¬ 1 ≤ s.size by omega)]; rfl
      · rw [decide_eq_false (fun e => h0 ((Qwx s).1 e)), decide_eq_true (show 1 ≤ s.size by omega)]
        simp only [Bool.not_false, Bool.true_and]
        by_cases h1 : s.size ≤ 12
        · rw [decide_eq_true h1, decide_eq_true (by omega)]
        · rw [decide_eq_false h1, decide_eq_false (by omega)]
    · rw [k1, k3]; simp [jn0]
  · intro k hk
    rw [hlen] at hk
    have hk2 : k < (bl s).length := by rw [J1]; exact hk
    unfold Qga
    rw [X3 hk2, cond_true, Qtm (show k < (bi s).length by rw [Qfd]; exact hk), QL, XZ k (by omega)]
    simp only [List.getElem_zipIdx, Nat.zero_add]
    rfl
  · rw [hlen, show (s.size : Int) = ((bl s).length : Int) by rw [J1]]
    unfold Qga
    rw [X4]; rfl
theorem QAz (l : List ByteArray) (v : ByteArray) (hl : l.length < 1000000) : Qei l v = some (l.any fun x => decide (v = x)) := by
  unfold Qei Qii
  rw [ZZ l (fun x => decide (v = x)) (fun k _ => (k : Int)), QL, Qno, QL, Qnn]
  · intro k hk
    unfold Qih
    rw [X3 hk, Yb hk, XZ k (by omega)]; rfl
  · unfold Qih
    rw [X4]; rfl
def ZG (s : ByteArray) (others : List ByteArray) : Int := if J9 s = false then 4 else if (others.any fun x => decide (s = x)) = true then 5 else 0
theorem Qub (s : ByteArray) (others : List ByteArray) (hs : s.size ≤ 1000) (hl : others.length < 1000000) : Qbj s others = some (ZG s others) := by
  unfold Qbj ZG
  rw [QCc s hs, QL, Z7, QL, QAz _ _ hl, QL, Z7, QL, Jt _ (by simp), QL]
  cases J9 s <;> cases (others.any fun x => decide (s = x)) <;> simp [YS]
end Go.Gw

end
section
set_option maxRecDepth 4096
namespace Go.Gw
open Go
theorem Qfe {α : Type} {c : Bool} {a b : α} : (bif c then some a else some b) = some (bif c then a else b) := by cases c <;> rfl
def Qwu (l r il ir eq sh lo s0 s1 : Bool) : Int := bif (!(l || il)) || !(r || ir) then 6 else bif l && r then 23 else bif eq then 26 else bif !(sh && lo) then 2 else bif (l && !s0) || (r && !s1) then 3 else 0
def ZK (s : FeedSection) (n : Nat) : Int := Qwu (decide (s.Left = -1)) (decide (s.Right = -1)) (decide (0 ≤ s.Left) && decide (s.Left ≤ (n : Int) - 1)) (decide (0 ≤ s.Right) && decide (s.Right ≤ (n : Int) - 1)) (decide (s.Left = s.Right))
  (decide (0 ≤ s.Share) && decide (s.Share ≤ 1000)) (decide (0 ≤ s.Loss) && decide (s.Loss ≤ 500)) (decide (s.Share = 0)) (decide (s.Share = 1000))
theorem QCi (s : FeedSection) (n : Nat) (hn : n < 1000) : Qdh s (n : Int) = some (ZK s n) := by
  unfold Qdh Qdg ZK
  rw [XS (by omega)]
  simp only [Z7, Qac, QL, Qfe]
  rw [Jt _ (by simp), QL]
  congr 1
  generalize decide (s.Left = -1) = l
  generalize decide (s.Right = -1) = r
  generalize (decide (0 ≤ s.Left) && decide (s.Left ≤ (n : Int) - 1)) = il
  generalize (decide (0 ≤ s.Right) && decide (s.Right ≤ (n : Int) - 1)) = ir
  generalize decide (s.Left = s.Right) = eq
  generalize (decide (0 ≤ s.Share) && decide (s.Share ≤ 1000)) = sh
  generalize (decide (0 ≤ s.Loss) && decide (s.Loss ≤ 500)) = lo
  generalize decide (s.Share = 0) = s0
  generalize decide (s.Share = 1000) = s1
  revert l r il ir eq sh lo s0 s1
  decide +kernel
theorem QKw (m : FeedNet) (s : FeedSection) (hn : m.Stations.length < 1000) : Qhx m s = some (ZK s m.Stations.length) := by
  unfold Qhx Qby ZK
  rw [XS (by omega)]
  simp only [Qam, QL, Qfe]
  congr 1
  generalize decide (s.Left = -1) = l
  generalize decide (s.Right = -1) = r
  generalize (decide (0 ≤ s.Left) && decide (s.Left ≤ (m.Stations.length : Int) - 1)) = il
  generalize (decide (0 ≤ s.Right) && decide (s.Right ≤ (m.Stations.length : Int) - 1)) = ir
  generalize decide (s.Left = s.Right) = eq
  generalize (decide (0 ≤ s.Share) && decide (s.Share ≤ 1000)) = sh
  generalize (decide (0 ≤ s.Loss) && decide (s.Loss ≤ 500)) = lo
  generalize decide (s.Share = 0) = s0
  generalize decide (s.Share = 1000) = s1
  revert l r il ir eq sh lo s0 s1
  decide +kernel
def ZL (s : FeedStep) (n : Nat) : Int := bif !(decide (0 ≤ s.Section) && decide (s.Section ≤ (n : Int) - 1)) then 6 else bif !(decide (-20000 ≤ s.Power) && decide (s.Power ≤ 20000)) then 2 else 0
def Qij (l : List FeedStep) (n : Nat) : Int := match Yj (fun i => (l[i]?.map (ZL · n)).getD 0) l.length with | some i => (l[i]?.map (ZL · n)).getD 0 | none => 0
def Qza (e1 e2 : Bool) (o : Bool) (z : Bool) (m : Bool) (st : Int) : Int := bif !(e1 && e2) then 2 else bif !o then 9 else bif !z then 10 else bif !m then 8 else st
def YW (t : FeedTrain) (n : Nat) : Int := Qza (decide (0 ≤ t.Earliest) && decide (t.Earliest ≤ 1000)) (decide (0 ≤ t.Latest) && decide (t.Latest ≤ 1000)) (decide (t.Earliest ≤ t.Latest)) (decide (0 < (t.Steps.length : Int))) (decide ((t.Steps.length : Int) ≤ 12)) (Qij t.Steps n)
theorem Qlu (l : List FeedStep) (n k : Nat) (hk : k < l.length) : (l[k]?.map (ZL · n)).getD 0 = ZL l[k] n := by rw [List.getElem?_eq_getElem hk]; rfl
theorem QCn (t : FeedTrain) (n : Nat) (hn : n < 1000) (ht : t.Steps.length < 1000) : Qdj t (n : Int) = some (YW t n) := by
  have key : loop (Qdi (n : Int) t) 0 = some (match Yj (fun i => (t.Steps[i]?.map (ZL · n)).getD 0) t.Steps.length with | some i => .inl ((t.Steps[i]?.map (ZL · n)).getD 0) | none => .inr ()) :=
    J7 (fun k => (k : Int)) t.Steps.length _ (fun _ e => e) () (fun k hk _ => by
      rw [Qlu _ _ _ hk]
      unfold Qdi ZL
      rw [X3 hk, cond_true, Yb hk, QL, XZ k (by omega), XS (by omega)]
      simp only [Z7, Qac, QL]
      rw [QNo _ _ (by omega) (by omega)]
      simp only [Z7, QL]
      rw [Jt _ (by simp), QL]
      generalize (decide (0 ≤ t.Steps[k].Section) && decide (t.Steps[k].Section ≤ (n : Int) - 1)) = a
      generalize (decide (-20000 ≤ t.Steps[k].Power) && decide (t.Steps[k].Power ≤ 20000)) = b
      cases a <;> cases b <;> rfl) (fun _ => by
      unfold Qdi
      rw [X4]; rfl)
  unfold Qdj Qbi
  rw [key]
  unfold YW Qij
  simp only [Z7, Qac, QL, Qfe]
  rw [Jt _ (by simp), QL]
  generalize (decide (0 ≤ t.Earliest) && decide (t.Earliest ≤ 1000)) = e1
  generalize (decide (0 ≤ t.Latest) && decide (t.Latest ≤ 1000)) = e2
  generalize decide (t.Earliest ≤ t.Latest) = o
  generalize decide (0 < (t.Steps.length : Int)) = z
  generalize decide ((t.Steps.length : Int) ≤ 12) = m
  cases Yj (fun i => (t.Steps[i]?.map (ZL · n)).getD 0) t.Steps.length with
  | none => cases e1 <;> cases e2 <;> cases o <;> cases z <;> cases m <;> rfl
  | some i => cases e1 <;> cases e2 <;> cases o <;> cases z <;> cases m <;> rfl
theorem QLb (m : FeedNet) (t : FeedTrain) (hn : m.Sections.length < 1000) (ht : t.Steps.length < 1000) : Qhz m t = some (YW t m.Sections.length) := by
  have key : loop (Qhy m t) 0 = some (match Yj (fun i => (t.Steps[i]?.map (ZL · m.Sections.length)).getD 0) t.Steps.length with | some i => .inl ((t.Steps[i]?.map (ZL · m.Sections.length)).getD 0) | none => .inr ()) :=
    J7 (fun k => (k : Int)) t.Steps.length _ (fun _ e => e) () (fun k hk _ => by
      rw [Qlu _ _ _ hk]
      unfold Qhy Qmw ZL
      rw [X3 hk, cond_true, Yb hk, QL, XZ k (by omega), XS (by omega)]
      simp only [Qam, QL]
      generalize (decide (0 ≤ t.Steps[k].Section) && decide (t.Steps[k].Section ≤ (m.Sections.length : Int) - 1)) = a
      generalize (decide (-20000 ≤ t.Steps[k].Power) && decide (t.Steps[k].Power ≤ 20000)) = b
      cases a <;> cases b <;> rfl) (fun _ => by
      unfold Qhy
      rw [X4]; rfl)
  unfold Qhz
  rw [key]
  unfold YW Qij
  simp only [Qam, QL, Qfe]
  rw [show decide (t.Latest < t.Earliest) = !decide (t.Earliest ≤ t.Latest) by rw [← decide_not]; congr 1; exact propext (by omega),
    show decide ((t.Steps.length : Int) = 0) = !decide (0 < (t.Steps.length : Int)) by rw [← decide_not]; congr 1; exact propext (by omega),
    show decide (12 < (t.Steps.length : Int)) = !decide ((t.Steps.length : Int) ≤ 12) by rw [← decide_not]; congr 1; exact propext (by omega)]
  generalize (decide (0 ≤ t.Earliest) && decide (t.Earliest ≤ 1000)) = e1
  generalize (decide (0 ≤ t.Latest) && decide (t.Latest ≤ 1000)) = e2
  generalize decide (t.Earliest ≤ t.Latest) = o
  generalize decide (0 < (t.Steps.length : Int)) = z
  generalize decide ((t.Steps.length : Int) ≤ 12) = q
  cases Yj (fun i => (t.Steps[i]?.map (ZL · m.Sections.length)).getD 0) t.Steps.length with
  | none => cases e1 <;> cases e2 <;> cases o <;> cases z <;> cases q <;> rfl
  | some i => cases e1 <;> cases e2 <;> cases o <;> cases z <;> cases q <;> rfl
end Go.Gw

end
section
set_option maxRecDepth 4096
namespace Go.Gw
open Go
def stE (s : FeedStation) (others : List ByteArray) : Int := if ZG s.Name others ≠ 0 then ZG s.Name others else bif !(decide (0 ≤ s.Limit) && decide (s.Limit ≤ 100000)) then 2 else 0
def Zj (n : FeedNet) (i : Nat) : Int := (n.Stations[i]?.map fun s => stE s ((n.Stations.take i).map (·.Name))).getD 0
def Zi (n : FeedNet) (i : Nat) : Int := (n.Sections[i]?.map fun s => ZK s n.Stations.length).getD 0
def JS (t : FeedTrain) (others : List ByteArray) (n : Nat) : Int := if ZG t.Name others ≠ 0 then ZG t.Name others else YW t n
def Y1 (n : FeedNet) (i : Nat) : Int := (n.Trains[i]?.map fun t => JS t ((n.Trains.take i).map (·.Name)) n.Sections.length).getD 0
def Yv (n : FeedNet) : FeedMark × Int :=
  if n.Stations.length = 0 ∨ n.Sections.length = 0 then (FeedMark.mk 0 0, 10) else if 6 < n.Stations.length ∨ 10 < n.Sections.length ∨ 6 < n.Trains.length then (FeedMark.mk 0 0, 8) else
  match Yj (Zj n) n.Stations.length with
  | some i => (FeedMark.mk 1 i, Zj n i)
  | none => match Yj (Zi n) n.Sections.length with
    | some i => (FeedMark.mk 2 i, Zi n i)
    | none => match Yj (Y1 n) n.Trains.length with
      | some i => (FeedMark.mk 3 i, Y1 n i)
      | none => (FeedMark.mk 0 0, 0)
structure NetS (n : FeedNet) : Prop where
  st : n.Stations.length < 1000
  se : n.Sections.length < 1000
  tr : n.Trains.length < 1000
  sn : ∀ s ∈ n.Stations, s.Name.size ≤ 1000
  tn : ∀ t ∈ n.Trains, t.Name.size ≤ 1000 ∧ t.Steps.length < 1000
theorem Jv {α : Type} (l : List α) (f : α → Int) (k : Nat) (hk : k < l.length) : (l[k]?.map f).getD 0 = f l[k] := by rw [List.getElem?_eq_getElem hk]; rfl
theorem Qyi {α β : Type} (l : List α) (f : α → β) (k : Nat) (hk : k < l.length) : (l.take k).map f ++ [f l[k]] = (l.take (k + 1)).map f := by
  rw [List.take_add_one, List.getElem?_eq_getElem hk, List.map_append]; rfl
theorem Qls (a b : Int) : YS [a, b] = if a ≠ 0 then a else b := by
  by_cases h : a = 0
  · by_cases h2 : b = 0 <;> simp [YS, h, h2]
  · simp [YS, h]
section
variable {n : FeedNet} (h : NetS n)
include h
theorem QCk : loop (Qcu n) (([] : List ByteArray), 0) = some (match Yj (Zj n) n.Stations.length with | some i => .inl (FeedMark.mk 1 i, Zj n i) | none => .inr ()) :=
  J7 (fun k => ((n.Stations.take k).map (·.Name), (k : Int))) n.Stations.length (Zj n) (fun i e => (FeedMark.mk 1 i, e)) () (fun k hk _ => by
    have hst := h.st
    have hs : Zj n k = stE n.Stations[k] ((n.Stations.take k).map (·.Name)) := Jv _ _ _ hk
    rw [hs]
    unfold Qcu stE
    simp only [X3 hk, cond_true, Yb hk, QL]
    rw [Qub _ _ (h.sn _ (List.getElem_mem hk)) (by simp; omega), QL]
    simp only [Qac, Z7, QL]
    rw [Jt _ (by simp), QL, Qls]
    generalize (decide (0 ≤ n.Stations[k].Limit) && decide (n.Stations[k].Limit ≤ 100000)) = b
    by_cases h1 : ZG n.Stations[k].Name ((n.Stations.take k).map (·.Name)) = 0
    · simp only [h1, ne_eq, not_true_eq_false, if_false]
      cases b
      · rfl
      · simp only [cond_true, decide_true, Bool.not_true, cond_false, if_true]
        rw [Qbf (by simp; omega), QL, Qyi n.Stations (·.Name) k hk, XZ k (by omega)]
    · simp only [ne_eq, h1, not_false_eq_true, if_true, decide_false, Bool.not_false, cond_true, if_false]) (fun _ => by
    unfold Qcu
    simp only [X4]; rfl)
theorem QCj : loop (Qcv n) 0 = some (match Yj (Zi n) n.Sections.length with | some i => .inl (FeedMark.mk 2 i, Zi n i) | none => .inr ()) :=
  J7 (fun k => (k : Int)) n.Sections.length (Zi n) (fun i e => (FeedMark.mk 2 i, e)) () (fun k hk _ => by
    have hse := h.se
    have hs : Zi n k = ZK n.Sections[k] n.Stations.length := Jv _ _ _ hk
    rw [hs]
    unfold Qcv
    rw [X3 hk, cond_true, Yb hk, QL, QCi _ _ h.st, QL, XZ k (by omega)]
    by_cases h1 : ZK n.Sections[k] n.Stations.length = 0
    · simp [h1]
    · simp [h1]) (fun _ => by
    unfold Qcv
    rw [X4]; rfl)
theorem QCo : loop (Qcw n) (([] : List ByteArray), 0) = some (match Yj (Y1 n) n.Trains.length with | some i => .inl (FeedMark.mk 3 i, Y1 n i) | none => .inr ()) :=
  J7 (fun k => ((n.Trains.take k).map (·.Name), (k : Int))) n.Trains.length (Y1 n) (fun i e => (FeedMark.mk 3 i, e)) () (fun k hk _ => by
    have hst := h.tr
    have hs : Y1 n k = JS n.Trains[k] ((n.Trains.take k).map (·.Name)) n.Sections.length := Jv _ _ _ hk
    rw [hs]
    unfold Qcw JS
    simp only [X3 hk, cond_true, Yb hk, QL]
    rw [Qub _ _ (h.tn _ (List.getElem_mem hk)).1 (by simp; omega), QL, QCn _ _ h.se (h.tn _ (List.getElem_mem hk)).2, QL]
    rw [Jt _ (by simp), QL, Qls]
    by_cases h1 : ZG n.Trains[k].Name ((n.Trains.take k).map (·.Name)) = 0
    · simp only [h1, ne_eq, not_true_eq_false, if_false]
      by_cases h2 : YW n.Trains[k] n.Sections.length = 0
      · simp only [h2, decide_true, Bool.not_true, cond_false, if_true]
        rw [Qbf (by simp; omega), QL, Qyi n.Trains (·.Name) k hk, XZ k (by omega)]
      · simp [h2]
    · simp only [ne_eq, h1, not_false_eq_true, if_true, decide_false, Bool.not_false, cond_true, if_false]) (fun _ => by
    unfold Qcw
    simp only [X4]; rfl)
theorem Qpt : Qcx n = some (Yv n) := by
  unfold Qcx Yv
  rw [QCk h, QCj h, QCo h]
  simp only [Z7, QL]
  rw [Jt _ (by simp), QL, Qls]
  by_cases h1 : n.Stations.length = 0 ∨ n.Sections.length = 0
  · rw [if_pos h1]
    have : (decide (0 < (n.Stations.length : Int)) && decide (0 < (n.Sections.length : Int))) = false := by
      rw [Bool.eq_false_iff]; intro e; simp at e; omega
    rw [this]; rfl
  · rw [if_neg h1]
    have : (decide (0 < (n.Stations.length : Int)) && decide (0 < (n.Sections.length : Int))) = true := by
      simp; omega
    rw [this]
    by_cases h2 : 6 < n.Stations.length ∨ 10 < n.Sections.length ∨ 6 < n.Trains.length
    · rw [if_pos h2]
      have : ((decide ((n.Stations.length : Int) ≤ 6) && decide ((n.Sections.length : Int) ≤ 10)) && decide ((n.Trains.length : Int) ≤ 6)) = false := by
        rw [Bool.eq_false_iff]; intro e; simp at e; omega
      rw [this]; rfl
    · rw [if_neg h2]
      have : ((decide ((n.Stations.length : Int) ≤ 6) && decide ((n.Sections.length : Int) ≤ 10)) && decide ((n.Trains.length : Int) ≤ 6)) = true := by
        simp; omega
      rw [this]
      cases Yj (Zj n) n.Stations.length with
      | some i => rfl
      | none =>
        cases Yj (Zi n) n.Sections.length with
        | some i => rfl
        | none =>
          cases Yj (Y1 n) n.Trains.length with
          | some i => rfl
          | none => rfl
end
end Go.Gw

end
section
set_option maxRecDepth 4096
namespace Go.Gw
open Go
theorem Qye {α : Type} {p : α → Bool} : ∀ (l : List α) (k m : Nat) (hk : k < l.length), p l[k] = true → ∃ j : Nat, X5 p (fun k _ => (k : Int)) m l = .inl ((m + j : Nat) : Int) ∧ (j < k ↔ (l.take k).any p = true)
  | x :: xs, 0, m, _, hp => ⟨0, by simp at hp; simp [X5, hp], by simp⟩
  | x :: xs, k + 1, m, hk, hp => by
    by_cases hx : p x = true
    · exact ⟨0, by simp [X5, hx], by simp [hx]⟩
    · obtain ⟨j, h1, h2⟩ := Qye xs k (m + 1) (by simpa using hk) (by simpa using hp)
      refine ⟨j + 1, by simp only [X5, hx]; rw [← show m + 1 + j = m + (j + 1) by omega]; simpa using h1, ?_⟩
      simp only [List.take_succ_cons, List.any_cons, hx]
      rw [← (show ((l : Bool) → (false || l) = l) from fun l => by cases l <;> rfl) ((xs.take k).any p)] at h2
      constructor
      · intro h; simpa using h2.1 (by omega)
      · intro h; have := h2.2 (by simpa using h); omega
theorem Qjl {α : Type} (f : α → ByteArray) (l : List α) (s : ByteArray) : ((l.map f).any fun x => decide (s = x)) = l.any fun y => decide (f y = s) := by
  rw [List.any_map]
  congr 1
  funext y
  exact decide_eq_decide.2 eq_comm
def JT (n : FeedNet) (s : ByteArray) : Int := match X5 (fun t : FeedTrain => decide (t.Name = s)) (fun k _ => (k : Int)) 0 n.Trains with | .inl i => i | .inr _ => -1
theorem QLc (n : FeedNet) (s : ByteArray) (h : n.Trains.length < 1000000) : Qhv n s = some (JT n s) := by
  unfold Qhv JT
  rw [ZZ n.Trains (fun t => decide (t.Name = s)) (fun k _ => (k : Int)), QL, Qno]
  all_goals first
    | (intro k hk; unfold Qmu; rw [X3 hk, cond_true, Yb hk, QL, XZ k (by omega)])
    | (unfold Qmu; rw [X4]; rfl)
    | rfl
section
variable {n : FeedNet} (h : NetS n)
include h
theorem QKy : loop (Qhj n) 0 = some (match Yj (Zj n) n.Stations.length with | some i => .inl (FeedMark.mk 1 i, Zj n i) | none => .inr ()) :=
  J7 (fun k => (k : Int)) n.Stations.length (Zj n) (fun i e => (FeedMark.mk 1 i, e)) () (fun k hk _ => by
    have hst := h.st
    have hs : Zj n k = stE n.Stations[k] ((n.Stations.take k).map (·.Name)) := Jv _ _ _ hk
    have hlen : (n.Stations.take k).length = k := by simp; omega
    have inner : loop (Qhi n (k : Int)) 0 = some (X5 (fun y : FeedStation => decide (y.Name = n.Stations[k].Name)) (fun _ _ => Sum.inr (α := Int) (Sum.inl (β := Unit) (FeedMark.mk 1 (k : Int), (5 : Int)))) 0 (n.Stations.take k)) :=
      ZZ (n.Stations.take k) _ _ (fun j hj => by
        rw [hlen] at hj
        unfold Qhi
        rw [X3 hj, cond_true, Yb (show j < n.Stations.length by omega), QL, Yb hk, QL, XZ j (by omega)]
        simp only [List.getElem_take]) (by
        rw [hlen]
        unfold Qhi
        rw [X4]; rfl)
    rw [hs]
    unfold Qhj stE ZG
    rw [X3 hk, cond_true, Yb hk, QL, Qoi, QL, inner, Qjl]
    cases hn : J9 n.Stations[k].Name
    · rfl
    · simp only [Bool.not_true, cond_false, QL]
      rcases JP (p := fun y : FeedStation => decide (y.Name = n.Stations[k].Name)) (res := fun _ _ => Sum.inr (α := Int) (Sum.inl (β := Unit) (FeedMark.mk 1 (k : Int), (5 : Int)))) (n.Stations.take k) 0 with ⟨k1, k2⟩ | ⟨j, x, k1, k2, k3⟩
      · rw [k1, k2]
        simp only [jn0, QL, Qam, XZ k (show k < 4611686018427387904 by omega)]
        generalize (decide (0 ≤ n.Stations[k].Limit) && decide (n.Stations[k].Limit ≤ 100000)) = b
        cases b <;> rfl
      · rw [k1, k3]; rfl) (fun _ => by
    unfold Qhj
    rw [X4]; rfl)
theorem QKx : loop (Qhk n) 0 = some (match Yj (Zi n) n.Sections.length with | some i => .inl (FeedMark.mk 2 i, Zi n i) | none => .inr ()) :=
  J7 (fun k => (k : Int)) n.Sections.length (Zi n) (fun i e => (FeedMark.mk 2 i, e)) () (fun k hk _ => by
    have hse := h.se
    have hs : Zi n k = ZK n.Sections[k] n.Stations.length := Jv _ _ _ hk
    rw [hs]
    unfold Qhk
    rw [X3 hk, cond_true, Yb hk, QL, QKw _ _ h.st, QL, XZ k (by omega)]
    by_cases h1 : ZK n.Sections[k] n.Stations.length = 0
    · simp [h1]
    · simp [h1]) (fun _ => by
    unfold Qhk
    rw [X4]; rfl)
theorem QLd : loop (Qhl n) 0 = some (match Yj (Y1 n) n.Trains.length with | some i => .inl (FeedMark.mk 3 i, Y1 n i) | none => .inr ()) :=
  J7 (fun k => (k : Int)) n.Trains.length (Y1 n) (fun i e => (FeedMark.mk 3 i, e)) () (fun k hk _ => by
    have hst := h.tr
    have hs : Y1 n k = JS n.Trains[k] ((n.Trains.take k).map (·.Name)) n.Sections.length := Jv _ _ _ hk
    obtain ⟨j, hj1, hj2⟩ := Qye (p := fun t : FeedTrain => decide (t.Name = n.Trains[k].Name)) n.Trains k 0 hk (by simp)
    have ht : JT n n.Trains[k].Name = (j : Int) := by unfold JT; rw [hj1]; simp
    rw [hs]
    unfold Qhl JS ZG
    rw [X3 hk, cond_true, Yb hk, QL, Qoi, QL, Qjl]
    cases hn : J9 n.Trains[k].Name
    · rfl
    · simp only [Bool.not_true, cond_false, QL]
      rw [QLc _ _ (by omega), ht, QL, QLb _ _ h.se (h.tn _ (List.getElem_mem hk)).2, QL, XZ k (by omega)]
      cases ha : (n.Trains.take k).any (fun t => decide (t.Name = n.Trains[k].Name)) with
      | true =>
        rw [decide_eq_true (show (j : Int) < k by have := hj2.2 ha; omega)]; rfl
      | false =>
        rw [decide_eq_false (show ¬ (j : Int) < k by intro e; have := hj2.1 (by omega); rw [ha] at this; cases this)]
        by_cases h2 : YW n.Trains[k] n.Sections.length = 0
        · simp [h2]
        · simp [h2]) (fun _ => by
    unfold Qhl
    rw [X4]; rfl)
theorem QKr : Qhm n = some (Yv n) := by
  unfold Qhm Yv
  rw [QKy h, QKx h, QLd h]
  by_cases h1 : n.Stations.length = 0 ∨ n.Sections.length = 0
  · rw [if_pos h1]
    have : (decide ((n.Stations.length : Int) = 0) || decide ((n.Sections.length : Int) = 0)) = true := by
      simp only [Bool.or_eq_true, decide_eq_true_eq]; omega
    rw [this]; rfl
  · rw [if_neg h1]
    have : (decide ((n.Stations.length : Int) = 0) || decide ((n.Sections.length : Int) = 0)) = false := by
      rw [decide_eq_false (by omega), decide_eq_false (by omega)]; rfl
    rw [this, cond_false]
    by_cases h2 : 6 < n.Stations.length ∨ 10 < n.Sections.length ∨ 6 < n.Trains.length
    · rw [if_pos h2]
      have : ((decide (6 < (n.Stations.length : Int)) || decide (10 < (n.Sections.length : Int))) || decide (6 < (n.Trains.length : Int))) = true := by
        simp only [Bool.or_eq_true, decide_eq_true_eq]; omega
      rw [this]; rfl
    · rw [if_neg h2]
      have : ((decide (6 < (n.Stations.length : Int)) || decide (10 < (n.Sections.length : Int))) || decide (6 < (n.Trains.length : Int))) = false := by
        rw [decide_eq_false (by omega), decide_eq_false (by omega), decide_eq_false (by omega)]; rfl
      rw [this, cond_false]
      cases Yj (Zj n) n.Stations.length with
      | some i => rfl
      | none =>
        cases Yj (Zi n) n.Sections.length with
        | some i => rfl
        | none =>
          cases Yj (Y1 n) n.Trains.length with
          | some i => rfl
          | none => rfl
end
end Go.Gw

end
section
set_option maxRecDepth 4096
namespace Go.Gw
open Go
theorem QBb {n : FeedNet} (h : NetS n) : Qdv n = some n := by
  have key : loop (Qhn n) (0, ([] : List FeedTrain)) = some n.Trains :=
    Je (fun k => ((k : Int), n.Trains.take k)) n.Trains.length (fun k hk => by
      have hst := h.tr
      have hsteps := (h.tn _ (List.getElem_mem hk)).2
      unfold Qhn
      simp only [X3 hk, cond_true, Yb hk, QL]
      rw [Qbf (by simp; omega), QL, Qbf (by simp; omega), QL, XZ k (by omega), List.nil_append]
      congr 3
      rw [List.take_add_one, List.getElem?_eq_getElem hk]; rfl) (by
      unfold Qhn
      simp only [X4, cond_false, List.take_length])
  unfold Qdv
  have h1 := h.st
  have h2 := h.se
  rw [Qbf (by simp; omega), Qbf (by simp; omega), key]
  rfl
def Qdk (n : FeedNet) : Bool := !(decide (8 < n.Stations.length) || decide (12 < n.Sections.length) || decide (8 < n.Trains.length)) && !(n.Stations.any fun s => decide (20 < (s.Name.size : Int))) && !(n.Trains.any fun t => decide (20 < (t.Name.size : Int)) || decide (14 < (t.Steps.length : Int)))
theorem QGu (n : FeedNet) : Qgs n = some (Qdk n) := by
  unfold Qgs Qdk
  by_cases h : 8 < n.Stations.length ∨ 12 < n.Sections.length ∨ 8 < n.Trains.length
  · have e1 : ((decide (8 < (n.Stations.length : Int)) || decide (12 < (n.Sections.length : Int))) || decide (8 < (n.Trains.length : Int))) = true := by
      simp only [Bool.or_eq_true, decide_eq_true_eq]; omega
    have e2 : (decide (8 < n.Stations.length) || decide (12 < n.Sections.length) || decide (8 < n.Trains.length)) = true := by
      simp only [Bool.or_eq_true, decide_eq_true_eq]; omega
    rw [e1, e2]; rfl
  · have e1 : ((decide (8 < (n.Stations.length : Int)) || decide (12 < (n.Sections.length : Int))) || decide (8 < (n.Trains.length : Int))) = false := by
      rw [decide_eq_false (by omega), decide_eq_false (by omega), decide_eq_false (by omega)]; rfl
    have e2 : (decide (8 < n.Stations.length) || decide (12 < n.Sections.length) || decide (8 < n.Trains.length)) = false := by
      rw [decide_eq_false (by omega), decide_eq_false (by omega), decide_eq_false (by omega)]; rfl
    rw [e1, e2, cond_false, ZZ n.Stations (fun s => decide (20 < (s.Name.size : Int))) (fun _ _ => false), QL, ZZ n.Trains (fun t => decide (20 < (t.Name.size : Int)) || decide (14 < (t.Steps.length : Int))) (fun _ _ => false)]
    · rcases JP (p := fun s : FeedStation => decide (20 < (s.Name.size : Int))) (res := fun _ _ => false) n.Stations 0 with ⟨k1, k2⟩ | ⟨j, x, k1, k2, k3⟩
      · rw [k1, k2]
        rcases JP (p := fun t : FeedTrain => decide (20 < (t.Name.size : Int)) || decide (14 < (t.Steps.length : Int))) (res := fun _ _ => false) n.Trains 0 with ⟨k3, k4⟩ | ⟨j, x, k3, k4, k5⟩
        · rw [k3, k4]; rfl
        · rw [k3, k5]; rfl
      · rw [k1, k3]; rfl
    · intro k hk
      unfold Qly
      rw [X3 hk, cond_true, Yb hk, QL, XZ k (by omega)]
      cases h1 : decide (20 < (n.Trains[k].Name.size : Int)) <;> simp
    · unfold Qly
      rw [X4]; rfl
    · intro k hk
      unfold Qlx
      rw [X3 hk, cond_true, Yb hk, QL, XZ k (by omega)]
    · unfold Qlx
      rw [X4]; rfl
theorem QGt {n : FeedNet} (h : Qdk n = true) : NetS n := by
  unfold Qdk at h
  simp only [Bool.and_eq_true, Bool.not_eq_true', Bool.or_eq_false_iff, decide_eq_false_iff_not, List.any_eq_false] at h
  obtain ⟨⟨⟨⟨h1, h2⟩, h3⟩, h4⟩, h5⟩ := h
  refine ⟨by omega, by omega, by omega, fun s hs => ?_, fun t ht => ?_⟩
  · have := h4 s hs; simp at this; omega
  · have := h5 t ht; simp at this; omega
def QQn (l : List FeedDeparture) : Bool := !(decide (8 < l.length)) && !(l.any fun d => decide (20 < (d.Train.size : Int)))
end Go.Gw

end
section
set_option maxRecDepth 4096
namespace Go.Gw
open Go
def QBd (n : FeedNet) (d : FeedDeparture) (others : List FeedDeparture) : Int := if JT n d.Train < 0 then 6 else if (others.any fun o => decide (o.Train = d.Train)) = true then 26 else bif !(decide (0 ≤ d.At) && decide (d.At ≤ 1000)) then 2 else 0
def Qpi (n : FeedNet) (l : List FeedDeparture) (i : Nat) : Int := (l[i]?.map fun d => QBd n d (l.take i)).getD 0
def Qay (n : FeedNet) (d : FeedDeparture) : feed_run := feed_run.mk (n.Trains[(JT n d.Train).toNat]?.getD default) d.At
end Go.Gw

end
section
set_option maxRecDepth 4096
namespace Go.Gw
open Go
/-! ### The greatest common divisor -/
noncomputable def QHo (n A : Int) : Frac := (QAj n A).getD default
/-! ### Sums -/
end Go.Gw

end
section
set_option maxRecDepth 4096
namespace Go.Gw
open Go
def QBh (st : List FeedStep) (k : Int) (s : Nat) : Int := if 0 ≤ k ∧ k ≤ (st.length : Int) - 1 then (match st[k.toNat]? with | some x => if x.Section = (s : Int) then x.Power else 0 | none => 0) else 0
def pwr (l : List feed_run) (t : Int) (s : Nat) : Int := (l.map fun r => QBh r.FeedTrain.Steps (t - r.at_) s).sum
def Qnz (m : Nat) (r : feed_run) : Prop := (∀ x ∈ r.FeedTrain.Steps, 0 ≤ x.Section ∧ x.Section ≤ (m : Int) - 1 ∧ -20000 ≤ x.Power ∧ x.Power ≤ 20000) ∧ r.FeedTrain.Steps.length ≤ 12 ∧ 0 ≤ r.at_ ∧ r.at_ ≤ 1000
end Go.Gw

end
section
set_option maxRecDepth 4096
namespace Go.Gw
open Go
structure NetOk (n : FeedNet) : Prop where
  st0 : 0 < n.Stations.length
  st6 : n.Stations.length ≤ 6
  se0 : 0 < n.Sections.length
  se10 : n.Sections.length ≤ 10
  tr6 : n.Trains.length ≤ 6
  lim : ∀ s ∈ n.Stations, 0 ≤ s.Limit ∧ s.Limit ≤ 100000
  sec : ∀ s ∈ n.Sections, ZK s n.Stations.length = 0
  tr : ∀ t ∈ n.Trains, YW t n.Sections.length = 0
theorem QGs {f : Nat → Int} {n : Nat} (h : (match Yj f n with | some i => f i | none => 0) = 0) : ∀ j, j < n → f j = 0 := by
  rcases J3 f n with ⟨h1, h2⟩ | ⟨i, h1, h2, h3, h4⟩
  · exact h2
  · rw [h1] at h; exact absurd h h3
theorem Qdq {n : FeedNet} (h : (Yv n).2 = 0) : NetOk n := by
  unfold Yv at h
  split at h
  · cases h
  · rename_i h1
    split at h
    · cases h
    · rename_i h2
      rcases J3 (Zj n) n.Stations.length with ⟨a1, a2⟩ | ⟨i, a1, a2, a3, _⟩
      · rw [a1] at h
        rcases J3 (Zi n) n.Sections.length with ⟨b1, b2⟩ | ⟨i, b1, b2, b3, _⟩
        · rw [b1] at h
          rcases J3 (Y1 n) n.Trains.length with ⟨c1, c2⟩ | ⟨i, c1, c2, c3, _⟩
          · refine ⟨by omega, by omega, by omega, by omega, by omega, fun s hs => ?_, fun s hs => ?_, fun t ht => ?_⟩
            · obtain ⟨k, hk, rfl⟩ := List.mem_iff_getElem.1 hs
              have := a2 k hk
              rw [show Zj n k = stE n.Stations[k] ((n.Stations.take k).map (·.Name)) from Jv _ _ _ hk] at this
              unfold stE at this
              split at this
              · rename_i hc; exact absurd this hc
              · cases hb : (decide (0 ≤ n.Stations[k].Limit) && decide (n.Stations[k].Limit ≤ 100000)) with
                | true => simpa using hb
                | false => rw [hb] at this; cases this
            · obtain ⟨k, hk, rfl⟩ := List.mem_iff_getElem.1 hs
              have := b2 k hk
              rwa [show Zi n k = ZK n.Sections[k] n.Stations.length from Jv _ _ _ hk] at this
            · obtain ⟨k, hk, rfl⟩ := List.mem_iff_getElem.1 ht
              have := c2 k hk
              rw [show Y1 n k = JS n.Trains[k] ((n.Trains.take k).map (·.Name)) n.Sections.length from Jv _ _ _ hk] at this
              unfold JS at this
              split at this
              · rename_i hc; exact absurd this hc
              · exact this
          · rw [c1] at h; exact absurd h c3
        · rw [b1] at h; exact absurd h b3
      · rw [a1] at h; exact absurd h a3
theorem Z6 {t : FeedTrain} {m : Nat} (h : YW t m = 0) : (0 ≤ t.Earliest ∧ t.Earliest ≤ 1000) ∧ (0 ≤ t.Latest ∧ t.Latest ≤ 1000) ∧ t.Earliest ≤ t.Latest ∧ 0 < t.Steps.length ∧ t.Steps.length ≤ 12 ∧ ∀ x ∈ t.Steps, 0 ≤ x.Section ∧ x.Section ≤ (m : Int) - 1 ∧ -20000 ≤ x.Power ∧ x.Power ≤ 20000 := by
  unfold YW Qza at h
  cases h1 : (decide (0 ≤ t.Earliest) && decide (t.Earliest ≤ 1000)) with
  | false => rw [h1] at h; cases h
  | true =>
    cases h2 : (decide (0 ≤ t.Latest) && decide (t.Latest ≤ 1000)) with
    | false => rw [h1, h2] at h; cases h
    | true =>
      cases h3 : decide (t.Earliest ≤ t.Latest) with
      | false => rw [h1, h2, h3] at h; cases h
      | true =>
        cases h4 : decide (0 < (t.Steps.length : Int)) with
        | false => rw [h1, h2, h3, h4] at h; cases h
        | true =>
          cases h5 : decide ((t.Steps.length : Int) ≤ 12) with
          | false => rw [h1, h2, h3, h4, h5] at h; cases h
          | true =>
            rw [h1, h2, h3, h4, h5] at h
            simp only [Bool.and_self, Bool.not_true, cond_false] at h
            unfold Qij at h
            have hz := QGs h
            simp only [Bool.and_eq_true, decide_eq_true_eq] at h1 h2 h3 h4 h5
            refine ⟨h1, h2, h3, by omega, by omega, fun x hx => ?_⟩
            obtain ⟨k, hk, rfl⟩ := List.mem_iff_getElem.1 hx
            have := hz k hk
            rw [Qlu _ _ _ hk] at this
            unfold ZL at this
            cases a : (decide (0 ≤ t.Steps[k].Section) && decide (t.Steps[k].Section ≤ (m : Int) - 1)) with
            | false => rw [a] at this; cases this
            | true =>
              cases b : (decide (-20000 ≤ t.Steps[k].Power) && decide (t.Steps[k].Power ≤ 20000)) with
              | false => rw [a, b] at this; cases this
              | true =>
                simp only [Bool.and_eq_true, decide_eq_true_eq] at a b
                exact ⟨a.1, a.2, b.1, b.2⟩
end Go.Gw

end
section
set_option maxRecDepth 4096
namespace Go.Gw
open Go
structure LadOk (l : FeedLadder) : Prop where
  pos : 0 < l.Loads.length
  most : l.Loads.length ≤ 8
  len : l.Ohms.length = l.Loads.length + 1
  ohm : ∀ x ∈ l.Ohms, 1 ≤ x ∧ x ≤ 500
  load : ∀ x ∈ l.Loads, -20000 ≤ x ∧ x ≤ 20000
theorem Qdp {a b m n : Int} (ha : -m ≤ a ∧ a ≤ m) (hb : -n ≤ b ∧ b ≤ n) : -(m * n) ≤ a * b ∧ a * b ≤ m * n := by
  have h1 : a.natAbs ≤ m.natAbs := by omega
  have h2 : b.natAbs ≤ n.natAbs := by omega
  have h3 := Nat.mul_le_mul h1 h2
  rw [← Int.natAbs_mul, ← Int.natAbs_mul] at h3
  have h4 : 0 ≤ m * n := Int.mul_nonneg (by omega) (by omega)
  omega
def pk (l : FeedLadder) (k : Nat) : Int := (l.Loads.take k).sum
def lf (l : FeedLadder) : Nat → Int
  | 0 => 0
  | k + 1 => lf l k + l.Ohms.getD k 0 * pk l k
def rk (l : FeedLadder) : Nat → Int
  | 0 => 0
  | k + 1 => rk l k + l.Loads.getD k 0 * (l.Ohms.drop (k + 1)).sum
section
variable {l : FeedLadder} (h : LadOk l)
include h
end
noncomputable def QQc (l : FeedLadder) (A L : Int) (n : Nat) : List Frac := (List.range n).map fun i => QHo (L - pk l i * A) A
section
variable {l : FeedLadder} (h : LadOk l)
include h
end
end Go.Gw

end
section
set_option maxRecDepth 4096
namespace Go.Gw
open Go
def QBi (s : FeedSection) (p : Int) : Int := if p < 0 then p * (1000 - s.Loss) else p * (1000 + s.Loss)
def Zt (s : FeedSection) (k : Int) : Int := if s.Left = k then s.Share else if s.Right = k then 1000 - s.Share else 0
def Qai (s : FeedSection) : Prop := (0 ≤ s.Share ∧ s.Share ≤ 1000) ∧ 0 ≤ s.Loss ∧ s.Loss ≤ 500
theorem Qwt {s : FeedSection} {n : Nat} (h : ZK s n = 0) : Qai s := by
  unfold ZK Qwu at h
  have key : ((decide (0 ≤ s.Share) && decide (s.Share ≤ 1000)) && (decide (0 ≤ s.Loss) && decide (s.Loss ≤ 500))) = true := by
    cases hb : ((decide (0 ≤ s.Share) && decide (s.Share ≤ 1000)) && (decide (0 ≤ s.Loss) && decide (s.Loss ≤ 500))) with
    | true => rfl
    | false =>
      rw [hb] at h
      revert h
      generalize ((!(decide (s.Left = -1) || (decide (0 ≤ s.Left) && decide (s.Left ≤ (n : Int) - 1)))) || !(decide (s.Right = -1) || (decide (0 ≤ s.Right) && decide (s.Right ≤ (n : Int) - 1)))) = a
      generalize (decide (s.Left = -1) && decide (s.Right = -1)) = b
      generalize decide (s.Left = s.Right) = c
      cases a <;> cases b <;> cases c <;> intro h <;> cases h
  simp only [Bool.and_eq_true, decide_eq_true_eq] at key
  exact ⟨key.1, key.2⟩
theorem Qww {s : FeedSection} (hs : Qai s) (k : Int) : -1000 ≤ Zt s k ∧ Zt s k ≤ 1000 := by
  obtain ⟨h0, _⟩ := hs
  unfold Zt
  split
  · omega
  · split <;> omega
theorem Qvu {s : FeedSection} (hs : Qai s) (k : Int) : Qee s k = some (Zt s k) := by
  obtain ⟨h0, _⟩ := hs
  unfold Qee Zt
  by_cases h1 : s.Left = k
  · rw [decide_eq_true h1, if_pos h1]; rfl
  · rw [decide_eq_false h1, if_neg h1]
    by_cases h2 : s.Right = k
    · rw [decide_eq_true h2, if_pos h2]
      simp only [cond_false, cond_true]
      rw [XS (by omega)]
    · rw [decide_eq_false h2, if_neg h2]; rfl
theorem QCa {s : FeedSection} (hs : Qai s) (k : Int) : Qao s k = some (Zt s k) := by
  rw [← Qvu hs k]
  unfold Qao Qee
  rw [show decide (k = s.Left) = decide (s.Left = k) from decide_eq_decide.2 eq_comm, show decide (k = s.Right) = decide (s.Right = k) from decide_eq_decide.2 eq_comm]
end Go.Gw

end
section
set_option maxRecDepth 4096
namespace Go.Gw
open Go
def ldS (secs : List FeedSection) (f : Nat → Int) (k : Nat) : Nat → Int
  | 0 => 0
  | j + 1 => ldS secs f k j + (secs[j]?.map fun s => QBi s (f j) * Zt s (k : Int)).getD 0
section
variable {secs : List FeedSection} {f : Nat → Int} (hs : ∀ s ∈ secs, Qai s) (hf : ∀ j, -160000 ≤ f j ∧ f j ≤ 160000)
include hs hf
end
def QQi (n : FeedNet) (f : Nat → Int) : List Int := (List.range n.Stations.length).map fun k => ldS n.Sections f k n.Sections.length
end Go.Gw

end
section
set_option maxRecDepth 4096
namespace Go.Gw
open Go
def pd (t : Int) (s : Nat) (r : feed_run) : List Int := if 0 ≤ t - r.at_ ∧ t - r.at_ ≤ (r.FeedTrain.Steps.length : Int) - 1 then (match r.FeedTrain.Steps[(t - r.at_).toNat]? with | some x => if x.Section = (s : Int) then [x.Power] else [] | none => []) else []
end Go.Gw

end
section
set_option maxRecDepth 4096
namespace Go.Gw
open Go
noncomputable def Qph (f : Frac) : Int := if 0 < f.Den ∧ Qom f.Num f.Den = some 1 then (if -1000000000 ≤ f.Num ∧ f.Num ≤ 1000000000 ∧ f.Den ≤ 1000000000 then 0 else 2) else 3
noncomputable def QBc : List Frac → Int
  | [] => 0
  | f :: l => if Qph f = 0 then QBc l else Qph f
end Go.Gw

end
section
set_option maxRecDepth 4096
namespace Go.Gw
open Go
def QBe (n : FeedNet) (l : List FeedDeparture) : Int := if 6 < l.length then 8 else match Yj (Qpi n l) l.length with | some i => Qpi n l i | none => 0
def QQb (n : FeedNet) (l : List FeedDeparture) : Int := if (Yv n).2 ≠ 0 then (Yv n).2 else QBe n l
def QQm (n : FeedNet) (s : Int) : Int := if 0 ≤ s ∧ s ≤ (n.Sections.length : Int) - 1 then 0 else 6
def ZN (t : Int) : Int := if 0 ≤ t ∧ t ≤ 1012 then 0 else 2
theorem Qcc (a b : Prop) [Decidable a] [Decidable b] : (decide a && decide b) = decide (a ∧ b) := (Bool.decide_and a b).symm
theorem Qpv (t : Int) : Qas t = some (ZN t) := by
  unfold Qas ZN
  rw [Qac, QL, Z7, QL, Qcc]
  by_cases h : 0 ≤ t ∧ t ≤ 1012 <;> simp [h]
theorem Qvv (t : Int) : Qed t = some (ZN t) := by
  unfold Qed ZN
  rw [Qam, QL, Qcc]
  by_cases h : 0 ≤ t ∧ t ≤ 1012 <;> simp [h]
theorem QGx (a b : Int) : YS [a, b] = if a ≠ 0 then a else b := by
  unfold YS YS YS; by_cases h : a = 0 <;> by_cases h2 : b = 0 <;> simp [h, h2]
theorem Qtl (a b c : Int) : YS [a, b, c] = if a ≠ 0 then a else if b ≠ 0 then b else c := by
  unfold YS YS YS YS; by_cases h : a = 0 <;> by_cases h2 : b = 0 <;> by_cases h3 : c = 0 <;> simp [h, h2, h3]
end Go.Gw

end
section
set_option maxRecDepth 4096
namespace Go.Gw
open Go
def Jj (n : FeedNet) (s : Int) : Int := if 0 ≤ s ∧ s ≤ (n.Stations.length : Int) - 1 then 0 else 6
theorem Qyh {n : FeedNet} {s : Int} (h : Jj n s = 0) : 0 ≤ s ∧ s ≤ (n.Stations.length : Int) - 1 := by
  unfold Jj at h; split at h; assumption; cases h
theorem QCl {n : FeedNet} (hn : n.Stations.length < 1000) (s : Int) : Qdd ⟨n⟩ s = some (Jj n s) := by
  unfold Qdd Jj
  simp only []
  rw [XS (x := (n.Stations.length : Int) - 1) (by omega), Qac, QL, Z7, QL, Qcc]
  by_cases h : 0 ≤ s ∧ s ≤ (n.Stations.length : Int) - 1 <;> simp [h]
theorem QKz {n : FeedNet} (hn : n.Stations.length < 1000) (s : Int) : Qht n s = some (Jj n s) := by
  unfold Qht Qby Jj
  rw [XS (x := (n.Stations.length : Int) - 1) (by omega), Qam, QL, QL, Qcc]
  by_cases h : 0 ≤ s ∧ s ≤ (n.Stations.length : Int) - 1 <;> simp [h]
def onI (r : feed_run) (t : Int) : Bool := decide (0 ≤ t - r.at_) && decide (t - r.at_ ≤ (r.FeedTrain.Steps.length : Int) - 1)
def Qma (n : FeedNet) (l : List FeedDeparture) (t : Int) (s : Nat) : Int := ldS n.Sections (pwr (l.map (Qay n)) t) s n.Sections.length
structure Rt (n : FeedNet) (l : List FeedDeparture) : Prop where
  ne : NetOk n
  tr : n.Trains.length < 1000
  l6 : l.length ≤ 6
  ru : ∀ d ∈ l, Qnz n.Sections.length (Qay n d) ∧ 0 ≤ JT n d.Train
section
variable {n : FeedNet} {l : List FeedDeparture} (h : Rt n l)
include h
def pkF (n : FeedNet) (l : List FeedDeparture) (s : Nat) (k : Nat) (a : Int × Int) : Int × Int := if a.2 < Qma n l ((k : Int) + 1) s then ((k : Int) + 1, Qma n l ((k : Int) + 1) s) else a
def QQj (n : FeedNet) (l : List FeedDeparture) (s : Nat) : Int × Int := rng (pkF n l s) (0, Qma n l 0 s) 1012
end
end Go.Gw

end
section
set_option maxRecDepth 4096
namespace Go.Gw
open Go
def Ju {α ρ μ : Type} (o : Option α) (res : α → ρ) (u : μ) : ρ ⊕ μ := match o with | some a => .inl (res a) | none => .inr u
theorem Qbs {α σ ρ μ : Type} {step : σ → Option (σ ⊕ (ρ ⊕ μ))} (S : Nat → σ) (n : Nat) (f : Nat → Option α) (res : α → ρ) (o : μ)
    (hs : ∀ k, k < n → step (S k) = some (match f k with | some a => .inr (.inl (res a)) | none => .inl (S (k + 1))))
    (he : step (S n) = some (.inr (.inr o))) : loop step (S 0) = some (Ju ((List.range n).findSome? f) res o) := by
  have key : ∀ j k, k + j = n → loop step (S k) = some (Ju ((List.range' k j).findSome? f) res o) := by
    intro j
    induction j with
    | zero => intro k hk; obtain rfl : k = n := by omega
              exact Qbt he
    | succ j ih =>
      intro k hk
      have h1 := hs k (by omega)
      rw [List.range'_succ, List.findSome?_cons]
      cases hf : f k with
      | some a => rw [hf] at h1; exact Qbt h1
      | none => rw [hf] at h1; rw [Qgx h1]; exact ih (k + 1) (by omega)
  rw [List.range_eq_range']
  exact key n 0 (by omega)
theorem Qtk {α β : Type} (f : β → α → β) (a : β) (l : List α) (k : Nat) (hk : k < l.length) : (l.take (k + 1)).foldl f a = f ((l.take k).foldl f a) l[k] := by
  rw [List.take_add_one, List.getElem?_eq_getElem hk, List.foldl_append]; rfl
def loF (a : Int) (r : feed_run) : Int := if r.at_ < a then r.at_ else a
def hiF (a : Int) (r : feed_run) : Int := if a < r.at_ + 12 then r.at_ + 12 else a
def loR (rs : List feed_run) : Int := rs.foldl loF 1012
def hiR (rs : List feed_run) : Int := rs.foldl hiF 0
def Qdn (n : FeedNet) (k : Nat) : Int := (n.Stations[k]?.map (·.Limit)).getD 0
def ldR (n : FeedNet) (rs : List feed_run) (t : Int) (k : Nat) : Int := ldS n.Sections (pwr rs t) k n.Sections.length
def ov1 (n : FeedNet) (rs : List feed_run) (t : Int) (k : Nat) : Option FeedPeak := if 1000000 * Qdn n k < ldR n rs t k then some (FeedPeak.mk t k (ldR n rs t k)) else none
def ovS (n : FeedNet) (rs : List feed_run) (t : Int) : Option FeedPeak := (List.range n.Stations.length).findSome? (ov1 n rs t)
def ovR (n : FeedNet) (rs : List feed_run) : Option FeedPeak := (List.range (hiR rs - loR rs + 1).toNat).findSome? fun (j : Nat) => ovS n rs (loR rs + j)
def pkB (o : Option FeedPeak) : FeedPeak × Bool := match o with | some p => (p, true) | none => (FeedPeak.mk 0 0 0, false)
def mnF (a r : feed_run) : feed_run := if r.at_ < a.at_ then r else a
def mxF (a r : feed_run) : feed_run := if a.at_ < r.at_ then r else a
def QQf (r : feed_run) : ByteArray × Int × Int × List FeedStep × Int := (r.FeedTrain.Name, r.FeedTrain.Earliest, r.FeedTrain.Latest, r.FeedTrain.Steps, r.at_)
section
variable {n : FeedNet} {rs : List feed_run} (hn : NetOk n) (hl : rs.length ≤ 8) (h : ∀ r ∈ rs, Qnz n.Sections.length r)
include hn
end
section
variable {n : FeedNet} {l : List FeedDeparture} (h : Rt n l)
include h
end
end Go.Gw

end
section
set_option maxRecDepth 4096
namespace Go.Gw
open Go
/-! ### Lists, compared -/
def YZ : List Int → List Int → Int
  | [], [] => 0
  | [], _ :: _ => -1
  | _ :: _, [] => 1
  | x :: xs, y :: ys => if x < y then -1 else if y < x then 1 else YZ xs ys
theorem Qtx : ∀ {a b}, YZ a b = 0 → a = b
  | [], [], _ => rfl
  | [], _ :: _, h => by simp [YZ] at h
  | _ :: _, [], h => by simp [YZ] at h
  | x :: xs, y :: ys, h => by
    unfold YZ at h
    by_cases h1 : x < y
    · simp [h1] at h
    · by_cases h2 : y < x
      · simp [h1, h2] at h
      · simp only [h1, h2, if_false] at h
        rw [show x = y by omega, Qtx h]
theorem Qtw : ∀ a b, YZ a b = -YZ b a
  | [], [] => rfl
  | [], _ :: _ => rfl
  | _ :: _, [] => rfl
  | x :: xs, y :: ys => by
    unfold YZ
    by_cases h1 : x < y
    · have h2 : ¬ y < x := by omega
      simp [h1, h2]
    · by_cases h2 : y < x
      · simp [h1, h2]
      · simp only [h1, h2, if_false]; exact Qtw xs ys
theorem Qty : ∀ {a b c}, YZ a b ≤ 0 → YZ b c ≤ 0 → YZ a c ≤ 0
  | [], _, [], _, _ => by simp [YZ]
  | [], _, _ :: _, _, _ => by simp [YZ]
  | _ :: _, [], _, h, _ => by simp [YZ] at h
  | _ :: _, _ :: _, [], _, h => by simp [YZ] at h
  | x :: xs, y :: ys, z :: zs, h1, h2 => by
    unfold YZ at h1 h2 ⊢
    by_cases a1 : x < y
    · by_cases b1 : y < z
      · rw [if_pos (by omega)]; omega
      · by_cases b2 : z < y
        · simp [b1, b2] at h2
        · rw [if_pos (by omega)]; omega
    · by_cases a2 : y < x
      · simp [a1, a2] at h1
      · obtain rfl : x = y := by omega
        simp only [a1, if_false] at h1
        by_cases b1 : x < z
        · rw [if_pos b1]; omega
        · by_cases b2 : z < x
          · simp [b1, b2] at h2
          · simp only [b1, b2, if_false] at h2 ⊢
            exact Qty h1 h2
/-! ### Plans, compared -/
def pc (p o : feed_plan) : Int := if p.delay < o.delay then -1 else if o.delay < p.delay then 1 else YZ p.at_ o.at_
def bet (p o : feed_plan) : Bool := p.found && (!o.found || decide (pc p o < 0))
theorem QKk (p q : feed_plan) : pc p q = -pc q p := by
  unfold pc
  by_cases h1 : p.delay < q.delay
  · have h2 : ¬ q.delay < p.delay := by omega
    simp [h1, h2]
  · by_cases h2 : q.delay < p.delay
    · simp [h1, h2]
    · simp only [h1, h2, if_false]; exact Qtw _ _
theorem QKm {p q r : feed_plan} (h1 : pc p q ≤ 0) (h2 : pc q r ≤ 0) : pc p r ≤ 0 := by
  unfold pc at *
  by_cases a1 : p.delay < q.delay
  · by_cases b1 : q.delay < r.delay
    · rw [if_pos (by omega)]; omega
    · by_cases b2 : r.delay < q.delay
      · simp [b1, b2] at h2
      · rw [if_pos (by omega)]; omega
  · by_cases a2 : q.delay < p.delay
    · simp [a1, a2] at h1
    · simp only [a1, a2, if_false] at h1
      by_cases b1 : q.delay < r.delay
      · rw [if_pos (by omega)]; omega
      · by_cases b2 : r.delay < q.delay
        · simp [b1, b2] at h2
        · simp only [b1, b2, if_false] at h2
          rw [if_neg (by omega), if_neg (by omega)]
          exact Qty h1 h2
theorem QKl {p q : feed_plan} (hp : p.found = true) (hq : q.found = true) (h : pc p q = 0) : p = q := by
  unfold pc at h
  by_cases h1 : p.delay < q.delay
  · simp [h1] at h
  · by_cases h2 : q.delay < p.delay
    · simp [h1, h2] at h
    · simp only [h1, h2, if_false] at h
      have h3 := Qtx h
      have h4 : p.delay = q.delay := by omega
      cases p; cases q
      simp only at hp hq h3 h4
      subst hp hq h3 h4
      rfl
def Bst (l : List feed_plan) (B : feed_plan) : Prop := ((∀ p ∈ l, p.found = false) ∧ B.found = false) ∨ (B ∈ l ∧ B.found = true ∧ ∀ q ∈ l, q.found = true → pc B q ≤ 0)
theorem Bst.found_eq {l : List feed_plan} {B B' : feed_plan} (h : Bst l B) (h' : Bst l B') : B.found = B'.found := by
  rcases h with ⟨h1, h2⟩ | ⟨h1, h2, h3⟩
  · rcases h' with ⟨k1, k2⟩ | ⟨k1, k2, k3⟩
    · rw [h2, k2]
    · have := h1 _ k1; rw [k2] at this; cases this
  · rcases h' with ⟨k1, k2⟩ | ⟨k1, k2, k3⟩
    · have := k1 _ h1; rw [h2] at this; cases this
    · rw [h2, k2]
theorem Bst.eq {l : List feed_plan} {B B' : feed_plan} (h : Bst l B) (h' : Bst l B') (hf : B.found = true) : B = B' := by
  have hf' := (h.found_eq h').symm.trans hf
  rcases h with ⟨h1, h2⟩ | ⟨h1, h2, h3⟩
  · rw [h2] at hf; cases hf
  · rcases h' with ⟨k1, k2⟩ | ⟨k1, k2, k3⟩
    · rw [k2] at hf'; cases hf'
    · refine QKl hf hf' ?_
      have a := h3 _ k1 hf'
      have b := k3 _ h1 hf
      rw [QKk] at b
      omega
theorem Bst.perm {l l' : List feed_plan} (hp : l'.Perm l) {B : feed_plan} (h : Bst l B) : Bst l' B := by
  rcases h with ⟨h1, h2⟩ | ⟨h1, h2, h3⟩
  · exact .inl ⟨fun p hm => h1 p (hp.subset hm), h2⟩
  · exact .inr ⟨hp.symm.subset h1, h2, fun q hq => h3 q (hp.subset hq)⟩
def btr (b p : feed_plan) : feed_plan := bif bet p b then p else b
def QQp : feed_plan := ⟨[], 0, false⟩
theorem Bst.flat {α : Type} {ks : List α} {f : α → List feed_plan} {g : α → feed_plan} (hg : ∀ k ∈ ks, Bst (f k) (g k)) {B : feed_plan} (h : Bst (ks.map g) B) : Bst (ks.flatMap f) B := by
  rcases h with ⟨h1, h2⟩ | ⟨h1, h2, h3⟩
  · refine .inl ⟨fun p hp => ?_, h2⟩
    obtain ⟨k, hk, hp⟩ := List.mem_flatMap.1 hp
    rcases hg k hk with ⟨a, _⟩ | ⟨_, a, _⟩
    · exact a p hp
    · rw [h1 _ (List.mem_map.2 ⟨k, hk, rfl⟩)] at a; cases a
  · obtain ⟨k, hk, rfl⟩ := List.mem_map.1 h1
    rcases hg k hk with ⟨_, a⟩ | ⟨a1, a2, a3⟩
    · rw [a] at h2; cases h2
    · refine .inr ⟨List.mem_flatMap.2 ⟨k, hk, a1⟩, h2, fun q hq hf => ?_⟩
      obtain ⟨j, hj, hq⟩ := List.mem_flatMap.1 hq
      rcases hg j hj with ⟨b, _⟩ | ⟨b1, b2, b3⟩
      · rw [b q hq] at hf; cases hf
      · exact QKm (h3 _ (List.mem_map.2 ⟨j, hj, rfl⟩) b2) (b3 q hq hf)
end Go.Gw

end
section
set_option maxRecDepth 4096
namespace Go.Gw
open Go
/-! ### Names are apart -/
theorem Qyd {α : Type} {p : α → Bool} : ∀ (l : List α) (k m : Nat) (hk : k < l.length), p l[k] = true → (l.take k).any p = false → X5 p (fun k _ => (k : Int)) m l = .inl ((m + k : Nat) : Int)
  | x :: xs, 0, m, _, hp, _ => by simp at hp; simp [X5, hp]
  | x :: xs, k + 1, m, hk, hp, ha => by
    simp only [List.take_succ_cons, List.any_cons, Bool.or_eq_false_iff] at ha
    simp only [X5, ha.1]
    have := Qyd xs k (m + 1) (by simpa using hk) (by simpa using hp) ha.2
    rw [← show m + 1 + k = m + (k + 1) by omega]
    simpa using this
theorem Qvi {n : FeedNet} (h : (Yv n).2 = 0) {k : Nat} (hk : k < n.Trains.length) : JT n n.Trains[k].Name = (k : Int) := by
  have h0 : Y1 n k = 0 := by
    unfold Yv at h
    split at h
    · cases h
    · split at h
      · cases h
      · rcases J3 (Zj n) n.Stations.length with ⟨a1, a2⟩ | ⟨i, a1, a2, a3, _⟩
        · rw [a1] at h
          rcases J3 (Zi n) n.Sections.length with ⟨b1, b2⟩ | ⟨i, b1, b2, b3, _⟩
          · rw [b1] at h
            rcases J3 (Y1 n) n.Trains.length with ⟨c1, c2⟩ | ⟨i, c1, c2, c3, _⟩
            · exact c2 k hk
            · rw [c1] at h; exact absurd h c3
          · rw [b1] at h; exact absurd h b3
        · rw [a1] at h; exact absurd h a3
  rw [show Y1 n k = JS n.Trains[k] ((n.Trains.take k).map (·.Name)) n.Sections.length from Jv _ _ _ hk] at h0
  unfold JS at h0
  split at h0
  · rename_i hc; exact absurd h0 hc
  · rename_i hc
    have hc : ZG n.Trains[k].Name ((n.Trains.take k).map (·.Name)) = 0 := by
      rcases Decidable.em (ZG n.Trains[k].Name ((n.Trains.take k).map (·.Name)) = 0) with h | h
      · exact h
      · exact absurd h hc
    unfold ZG at hc
    split at hc
    · cases hc
    · split at hc
      · cases hc
      · rename_i ha
        rw [Qjl, Bool.not_eq_true] at ha
        unfold JT
        rw [Qyd n.Trains k 0 hk (by simp) ha]
        simp
def QBf (t : FeedTrain) (k : Nat) : FeedDeparture := FeedDeparture.mk t.Name (t.Earliest + k)
def Zy (t : FeedTrain) : Nat := (t.Latest - t.Earliest + 1).toNat
def QBg : List FeedTrain → List FeedDeparture → List (List FeedDeparture)
  | [], p => [p]
  | t :: ts, p => (List.range (Zy t)).flatMap fun k => QBg ts (p ++ [QBf t k])
def dlF (n : FeedNet) (a : Int) (d : FeedDeparture) : Int := a + d.At - (Qay n d).FeedTrain.Earliest
def dl (n : FeedNet) (p : List FeedDeparture) : Int := p.foldl (dlF n) 0
def QQl (n : FeedNet) (p : List FeedDeparture) : feed_plan := ⟨p.map (·.At), dl n p, (ovR n (p.map (Qay n))).isNone⟩
structure Trs (n : FeedNet) (ts : List FeedTrain) : Prop where
  ne : NetOk n
  ru : ∀ t ∈ ts, ∀ a : Int, Qay n (FeedDeparture.mk t.Name a) = feed_run.mk t a
  ok : ∀ t ∈ ts, YW t n.Sections.length = 0
theorem QOp {n : FeedNet} (h : (Yv n).2 = 0) : Trs n n.Trains := by
  refine ⟨Qdq h, fun t ht a => ?_, (Qdq h).tr⟩
  obtain ⟨k, hk, rfl⟩ := List.mem_iff_getElem.1 ht
  unfold Qay
  simp only [Qvi h hk, Int.toNat_natCast, List.getElem?_eq_getElem hk, Option.getD_some]
theorem Trs.tail {n : FeedNet} {t : FeedTrain} {ts : List FeedTrain} (h : Trs n (t :: ts)) : Trs n ts := ⟨h.ne, fun x hx => h.ru x (List.mem_cons_of_mem _ hx), fun x hx => h.ok x (List.mem_cons_of_mem _ hx)⟩
def QQe (p : feed_plan) : List Int × Int × Bool := (p.at_, p.delay, p.found)
end Go.Gw

end
section
set_option maxRecDepth 4096
namespace Go.Gw
open Go
def Qcf (t : FeedTrain) : Bool := decide (8 ≤ w64 (t.Latest - t.Earliest))
def Ja (n : FeedNet) : Int := if 4 < n.Trains.length ∨ n.Trains.any Qcf = true then 8 else 0
theorem QCh {n : FeedNet} (hn : n.Trains.length < 1000) : Qap ⟨n⟩ = some (Ja n) := by
  have key : Qeh n.Trains = some (n.Trains.any Qcf) := by
    unfold Qeh Qig
    rw [ZZ n.Trains Qcf (fun k _ => (k : Int)), QL, Qno, QL, Qnn]
    · intro k hk
      unfold Qif Qgh
      rw [X3 hk, cond_true, Yb hk, QL, XZ k (by omega)]; rfl
    · unfold Qif
      rw [X4]; rfl
  unfold Qap
  simp only []
  rw [key, QL, Z7, QL]
  unfold Ja
  by_cases h1 : 4 < n.Trains.length
  · rw [decide_eq_false (by omega)]; simp [h1]
  · rw [decide_eq_true (by omega)]
    cases n.Trains.any Qcf <;> simp [h1]
theorem Qvq {n : FeedNet} (hn : n.Trains.length < 1000) : Qdu n = some (Ja n) := by
  unfold Qdu Ja
  by_cases h1 : 4 < n.Trains.length
  · rw [decide_eq_true (by omega)]; simp [h1]
  · rw [decide_eq_false (by omega), cond_false, ZZ n.Trains Qcf (fun _ _ => (8 : Int)), QL]
    · rcases JP (p := Qcf) (res := fun _ _ => (8 : Int)) n.Trains 0 with ⟨e1, e2⟩ | ⟨j, x, e1, _, e2⟩
      · rw [e1, e2]; simp [h1, jn0]
      · rw [e1, e2]; simp [jn0]
    · intro k hk
      unfold Qmt
      rw [X3 hk, cond_true, Yb hk, QL, QL, XZ k (by omega)]; rfl
    · unfold Qmt
      rw [X4]; rfl
theorem Qvs {n : FeedNet} (h : NetS n) : Qeb n = some (Yv n).2 := by
  unfold Qeb; rw [QKr h, QL]
def Qms (n : FeedNet) : Bool := (!decide ((Yv n).2 = 0)) || (!decide (Ja n = 0)) || (decide (n.Trains.length ≤ 3) && !(n.Trains.any fun t => decide (3 < w64 (t.Latest - t.Earliest))))
theorem QKo {n : FeedNet} (h : NetS n) : Qgw n = some (Qms n) := by
  unfold Qgw Qms
  rw [Qvs h, QL, Qvq h.tr]
  by_cases h1 : (Yv n).2 = 0
  · by_cases h2 : Ja n = 0
    · simp only [h1, h2, decide_true, Bool.not_true, Bool.not_false, cond_true, QL, Bool.or_self, cond_false, Bool.false_or]
      by_cases h3 : n.Trains.length ≤ 3
      · rw [decide_eq_false (by omega), decide_eq_true h3, cond_false, ZZ n.Trains (fun t => decide (3 < w64 (t.Latest - t.Earliest))) (fun _ _ => false), QL]
        · rcases JP (p := fun t : FeedTrain => decide (3 < w64 (t.Latest - t.Earliest))) (res := fun _ _ => false) n.Trains 0 with ⟨e1, e2⟩ | ⟨j, x, e1, _, e2⟩
          · rw [e1, e2]; rfl
          · rw [e1, e2]; rfl
        · intro k hk
          unfold Qlz
          rw [X3 hk, cond_true, Yb hk, QL, QL, XZ k (by omega)]
        · unfold Qlz
          rw [X4]; rfl
      · rw [decide_eq_true (by omega), decide_eq_false h3]; rfl
    · simp [h1, h2]
  · simp [h1]
/-! ### Departures that fit -/
def Fits : List FeedTrain → List FeedDeparture → Prop
  | [], [] => True
  | t :: ts, d :: ds => (d.Train = t.Name ∧ t.Earliest ≤ d.At ∧ d.At ≤ t.Latest) ∧ Fits ts ds
  | _, _ => False
theorem Fits.len : ∀ {ts : List FeedTrain} {r : List FeedDeparture}, Fits ts r → r.length = ts.length
  | [], [], _ => rfl
  | _ :: _, _ :: _, h => by simp [Fits.len h.2]
theorem Fits.get : ∀ {ts : List FeedTrain} {r : List FeedDeparture}, Fits ts r → ∀ k (hk : k < r.length) (hk2 : k < ts.length), r[k].Train = ts[k].Name ∧ ts[k].Earliest ≤ r[k].At ∧ r[k].At ≤ ts[k].Latest
  | [], [], _, k, hk, _ => by simp at hk
  | _ :: _, _ :: _, h, 0, _, _ => h.1
  | _ :: _, _ :: _, h, k + 1, hk, hk2 => Fits.get h.2 k (by simpa using hk) (by simpa using hk2)
theorem Fits.eq : ∀ {ts : List FeedTrain} {r s : List FeedDeparture}, Fits ts r → Fits ts s → r.map (·.At) = s.map (·.At) → r = s
  | [], [], [], _, _, _ => rfl
  | _ :: _, ⟨a, b⟩ :: r, ⟨c, d⟩ :: s, h1, h2, h => by
    simp only [List.map_cons, List.cons.injEq] at h
    have e1 := h1.1.1
    have e2 := h2.1.1
    simp only at e1 e2
    rw [Fits.eq h1.2 h2.2 h.2, e1, e2, h.1]
theorem Fits.rt {n : FeedNet} (h : (Yv n).2 = 0) (hs : n.Trains.length < 1000) {p : List FeedDeparture} (hp : Fits n.Trains p) : Rt n p := by
  have hT := QOp h
  refine ⟨hT.ne, hs, by rw [hp.len]; exact hT.ne.tr6, fun d hd => ?_⟩
  obtain ⟨k, hk, rfl⟩ := List.mem_iff_getElem.1 hd
  have hk2 : k < n.Trains.length := by rw [← hp.len]; exact hk
  have hg := hp.get k hk hk2
  have ht := Z6 (hT.ok _ (List.getElem_mem hk2))
  have e : Qay n p[k] = feed_run.mk n.Trains[k] p[k].At := by
    rw [← hT.ru _ (List.getElem_mem hk2), ← hg.1]
  refine ⟨?_, by rw [hg.1, Qvi h hk2]; omega⟩
  rw [e]
  exact ⟨ht.2.2.2.2.2, ht.2.2.2.2.1, by show 0 ≤ p[k].At; omega, by show p[k].At ≤ 1000; omega⟩
end Go.Gw

end
section
set_option maxRecDepth 4096
namespace Go.Gw
open Go
def JQ (n : FeedNet) (w : FeedWindow) (s : FeedStep) : Int := (n.Sections[s.Section.toNat]?.map fun c => s.Power * (1000 + c.Loss) * Zt c w.Station).getD 0
def inW (w : FeedWindow) (t : Int) : Prop := w.Ticks.Lo ≤ t ∧ t ≤ w.Ticks.Hi
instance (w : FeedWindow) (t : Int) : Decidable (inW w t) := inferInstanceAs (Decidable (_ ∧ _))
def JN (n : FeedNet) (w : FeedWindow) (t : FeedTrain) (at_ : Int) : Nat → Int
  | 0 => 0
  | k + 1 => JN n w t at_ k + if inW w (at_ + k) then (t.Steps[k]?.map (JQ n w)).getD 0 else 0
def Zq (n : FeedNet) (w : FeedWindow) (t : FeedTrain) (at_ : Int) : Int := JN n w t at_ t.Steps.length
def ZE (n : FeedNet) (w : FeedWindow) (t : FeedTrain) : Nat → Int
  | 0 => Zq n w t t.Earliest
  | k + 1 => if Zq n w t (t.Earliest + ((k + 1 : Nat) : Int)) < ZE n w t k then Zq n w t (t.Earliest + ((k + 1 : Nat) : Int)) else ZE n w t k
theorem Qmp (n : FeedNet) (w : FeedWindow) (t : FeedTrain) (a : Int) (k : Nat) : JN n w t a (k + 1) = JN n w t a k + if inW w (a + k) then (t.Steps[k]?.map (JQ n w)).getD 0 else 0 := rfl
theorem Qdo (n : FeedNet) (w : FeedWindow) (t : FeedTrain) (k : Nat) : ZE n w t (k + 1) = if Zq n w t (t.Earliest + ((k + 1 : Nat) : Int)) < ZE n w t k then Zq n w t (t.Earliest + ((k + 1 : Nat) : Int)) else ZE n w t k := rfl
def Zf (n : FeedNet) (w : FeedWindow) (t : FeedTrain) : Int := ZE n w t (Zy t - 1)
def Jg (n : FeedNet) (w : FeedWindow) : Nat → Int
  | 0 => 0
  | i + 1 => Jg n w i + (n.Trains[i]?.map (Zf n w)).getD 0
theorem Qme (n : FeedNet) (w : FeedWindow) (i : Nat) : Jg n w (i + 1) = Jg n w i + (n.Trains[i]?.map (Zf n w)).getD 0 := rfl
def Jh (n : FeedNet) (w : FeedWindow) : Int := Jg n w n.Trains.length
theorem Qzh (w : FeedWindow) {c : FeedSection} (hS : Qai c) {p : Int} (hp : -20000 ≤ p ∧ p ≤ 20000) {o : Int} (ho : -360000000000 ≤ o ∧ o ≤ 360000000000) : w64 (o + (w64 ((w64 (p * (w64 (1000 + c.Loss)))) * Zt c w.Station))) = o + p * (1000 + c.Loss) * Zt c w.Station := by
  have hl : 0 ≤ c.Loss ∧ c.Loss ≤ 500 := hS.2
  have h1 := Qdp (a := p) (b := 1000 + c.Loss) (m := 20000) (n := 1500) hp (by omega)
  have h2 := Qdp (a := p * (1000 + c.Loss)) (b := Zt c w.Station) (m := 30000000) (n := 1000) (by omega) (Qww hS _)
  rw [XS (x := 1000 + c.Loss) (by omega), XS (x := p * (1000 + c.Loss)) (by omega), XS (x := p * (1000 + c.Loss) * Zt c w.Station) (by omega), XS (by omega)]
section
variable {n : FeedNet} (hn : NetOk n) (w : FeedWindow)
include hn
theorem QNr (s : FeedStep) (hs : -20000 ≤ s.Power ∧ s.Power ≤ 20000) : -30000000000 ≤ JQ n w s ∧ JQ n w s ≤ 30000000000 := by
  unfold JQ
  cases hc : n.Sections[s.Section.toNat]? with
  | none => simp
  | some c =>
    have hS := Qwt (hn.sec c (List.mem_of_getElem? hc))
    have h1 := Qdp (a := s.Power) (b := 1000 + c.Loss) (m := 20000) (n := 1500) hs (by obtain ⟨_, h⟩ := hS; omega)
    have h2 := Qdp (a := s.Power * (1000 + c.Loss)) (b := Zt c w.Station) (m := 30000000) (n := 1000) (by omega) (Qww hS _)
    simp only [Option.map_some, Option.getD_some]
    omega
theorem Qhe {t : FeedTrain} (ht : ∀ x ∈ t.Steps, -20000 ≤ x.Power ∧ x.Power ≤ 20000) (a : Int) : ∀ k : Nat, -(30000000000 * (k : Int)) ≤ JN n w t a k ∧ JN n w t a k ≤ 30000000000 * (k : Int)
  | 0 => by simp [JN]
  | k + 1 => by
    have h1 := Qhe ht a k
    have h2 : -30000000000 ≤ (if inW w (a + k) then (t.Steps[k]?.map (JQ n w)).getD 0 else 0) ∧ (if inW w (a + k) then (t.Steps[k]?.map (JQ n w)).getD 0 else 0) ≤ 30000000000 := by
      split
      · cases hx : t.Steps[k]? with
        | none => simp
        | some x => simpa using QNr hn w x (ht x (List.mem_of_getElem? hx))
      · omega
    rw [Qmp]
    omega
theorem Qvh {t : FeedTrain} (ht : YW t n.Sections.length = 0) (a : Int) : -360000000000 ≤ Zq n w t a ∧ Zq n w t a ≤ 360000000000 := by
  have h := Z6 ht
  have := Qhe hn w (fun x hx => ⟨(h.2.2.2.2.2 x hx).2.2.1, (h.2.2.2.2.2 x hx).2.2.2⟩) a t.Steps.length
  unfold Zq; omega
theorem Qgy {t : FeedTrain} (ht : YW t n.Sections.length = 0) : ∀ k, -360000000000 ≤ ZE n w t k ∧ ZE n w t k ≤ 360000000000
  | 0 => Qvh hn w ht _
  | k + 1 => by
    have h1 := Qgy ht k
    have h2 := Qvh hn w ht (t.Earliest + ((k + 1 : Nat) : Int))
    rw [Qdo]
    split <;> assumption
theorem Qmd : ∀ k : Nat, -(360000000000 * (k : Int)) ≤ Jg n w k ∧ Jg n w k ≤ 360000000000 * (k : Int)
  | 0 => by simp [Jg]
  | k + 1 => by
    have h1 := Qmd k
    have h2 : -360000000000 ≤ (n.Trains[k]?.map (Zf n w)).getD 0 ∧ (n.Trains[k]?.map (Zf n w)).getD 0 ≤ 360000000000 := by
      cases hx : n.Trains[k]? with
      | none => simp
      | some x => simpa [Zf] using Qgy hn w (hn.tr x (List.mem_of_getElem? hx)) _
    rw [Qme]
    omega
theorem Qyg {t : FeedTrain} (ht : YW t n.Sections.length = 0) {k : Nat} (hk : k < t.Steps.length) : ∃ c, idx n.Sections t.Steps[k].Section = some c ∧ Qai c ∧ JQ n w t.Steps[k] = t.Steps[k].Power * (1000 + c.Loss) * Zt c w.Station ∧ -20000 ≤ t.Steps[k].Power ∧ t.Steps[k].Power ≤ 20000 := by
  have h := (Z6 ht).2.2.2.2.2 _ (List.getElem_mem hk)
  have hj : t.Steps[k].Section.toNat < n.Sections.length := by omega
  refine ⟨n.Sections[t.Steps[k].Section.toNat], by unfold idx; rw [if_pos h.1, List.getElem?_eq_getElem hj], Qwt (hn.sec _ (List.getElem_mem hj)), ?_, h.2.2.1, h.2.2.2⟩
  unfold JQ; rw [List.getElem?_eq_getElem hj]; rfl
theorem QCg {t : FeedTrain} (ht : YW t n.Sections.length = 0) {a : Int} (ha : 0 ≤ a ∧ a ≤ 1000) : loop (Qgc t ⟨n⟩ w a) (0, 0) = some (Zq n w t a) :=
  Je (fun k => (JN n w t a k, (k : Int))) t.Steps.length (fun k hk => by
    obtain ⟨c, h1, h2, h3, h4⟩ := Qyg hn w ht hk
    have h12 := (Z6 ht).2.2.2.2.1
    have hb := Qhe hn w (fun x hx => ⟨((Z6 ht).2.2.2.2.2 x hx).2.2.1, ((Z6 ht).2.2.2.2.2 x hx).2.2.2⟩) a k
    unfold Qgc
    simp only [X3 hk, cond_true, Yb hk, QL, h1]
    rw [XS (x := a + (k : Int)) (by omega), Qac, QL, QCa h2, QL, Qzh w h2 h4 (by omega), XZ k (by omega), Qcc]
    rw [Qmp, List.getElem?_eq_getElem hk]
    simp only [Option.map_some, Option.getD_some, h3]
    by_cases hw : inW w (a + k)
    · rw [decide_eq_true (show w.Ticks.Lo ≤ a + (k : Int) ∧ a + (k : Int) ≤ w.Ticks.Hi from hw), if_pos hw]; rfl
    · rw [decide_eq_false (show ¬ (w.Ticks.Lo ≤ a + (k : Int) ∧ a + (k : Int) ≤ w.Ticks.Hi) from hw), if_neg hw, Int.add_zero]; rfl) (by
    unfold Qgc Zq
    simp only [X4, cond_false])
theorem QKv {t : FeedTrain} (ht : YW t n.Sections.length = 0) {a : Int} (ha : 0 ≤ a ∧ a ≤ 1000) : loop (Qhq t n w a) (0, 0) = some (Zq n w t a) :=
  Je (fun k => (JN n w t a k, (k : Int))) t.Steps.length (fun k hk => by
    obtain ⟨c, h1, h2, h3, h4⟩ := Qyg hn w ht hk
    have h12 := (Z6 ht).2.2.2.2.1
    have hb := Qhe hn w (fun x hx => ⟨((Z6 ht).2.2.2.2.2 x hx).2.2.1, ((Z6 ht).2.2.2.2.2 x hx).2.2.2⟩) a k
    unfold Qhq
    simp only [X3 hk, cond_true, Yb hk, QL, h1]
    rw [XS (x := a + (k : Int)) (by omega), Qam, QL, Qvu h2, QL, Qzh w h2 h4 (by omega), XZ k (by omega), Qcc]
    rw [Qmp, List.getElem?_eq_getElem hk]
    simp only [Option.map_some, Option.getD_some, h3]
    by_cases hw : inW w (a + k)
    · rw [decide_eq_true (show w.Ticks.Lo ≤ a + (k : Int) ∧ a + (k : Int) ≤ w.Ticks.Hi from hw), if_pos hw]; rfl
    · rw [decide_eq_false (show ¬ (w.Ticks.Lo ≤ a + (k : Int) ∧ a + (k : Int) ≤ w.Ticks.Hi) from hw), if_neg hw, Int.add_zero]; rfl) (by
    unfold Qhq Zq
    simp only [X4, cond_false])
def Jf (n : FeedNet) (w : FeedWindow) (t : FeedTrain) : Nat → Int × Bool
  | 0 => (0, false)
  | k + 1 => (ZE n w t k, true)
theorem QCe {t : FeedTrain} (ht : YW t n.Sections.length = 0) : loop (Qdc t ⟨n⟩ w) (0, false, t.Earliest) = some (Zf n w t) := by
  have h := Z6 ht
  have hw : (Zy t : Int) = t.Latest - t.Earliest + 1 := by unfold Zy; omega
  have key := Je (step := Qdc t ⟨n⟩ w) (o := Zf n w t) (fun k => ((Jf n w t k).1, (Jf n w t k).2, t.Earliest + (k : Int))) (Zy t) (fun k hk => by
    unfold Qdc
    simp only []
    rw [decide_eq_true (by omega), cond_true, QCg hn w ht (by omega), QL, XS (x := t.Earliest + (k : Int) + 1) (by omega), show t.Earliest + (k : Int) + 1 = t.Earliest + ((k + 1 : Nat) : Int) by omega]
    cases k with
    | zero => simp [Jf, ZE]
    | succ k =>
      by_cases hc : Zq n w t (t.Earliest + ((k + 1 : Nat) : Int)) < ZE n w t k
      · simp only [Jf, Qdo, hc, if_true, decide_true, Bool.or_true, cond_true]
      · simp only [Jf, Qdo, hc, if_false, decide_false, Bool.not_true, Bool.or_self, cond_false]) (by
    unfold Qdc
    simp only []
    rw [decide_eq_false (by omega), cond_false]
    obtain ⟨m, hm⟩ : ∃ m, Zy t = m + 1 := ⟨Zy t - 1, by omega⟩
    unfold Zf
    rw [hm]; rfl)
  simpa [Jf] using key
theorem QKu {t : FeedTrain} (ht : YW t n.Sections.length = 0) : loop (Qdz t n w) (0, t.Earliest) = some (Zf n w t) := by
  have h := Z6 ht
  have hw : (Zy t : Int) = t.Latest - t.Earliest + 1 := by unfold Zy; omega
  have key := Je (step := Qdz t n w) (o := Zf n w t) (fun k => ((Jf n w t k).1, t.Earliest + (k : Int))) (Zy t) (fun k hk => by
    unfold Qdz
    simp only []
    rw [decide_eq_true (by omega), cond_true, QKv hn w ht (by omega), QL, XS (x := t.Earliest + (k : Int) + 1) (by omega), show t.Earliest + (k : Int) + 1 = t.Earliest + ((k + 1 : Nat) : Int) by omega]
    cases k with
    | zero => simp [Jf, ZE]
    | succ k =>
      rw [decide_eq_false (show ¬ (t.Earliest + ((k + 1 : Nat) : Int) = t.Earliest) by omega)]
      by_cases hc : Zq n w t (t.Earliest + ((k + 1 : Nat) : Int)) < ZE n w t k
      · simp only [Jf, Qdo, hc, if_true, decide_true, Bool.or_true, cond_true]
      · simp only [Jf, Qdo, hc, if_false, decide_false, Bool.or_self, cond_false]) (by
    unfold Qdz
    simp only []
    rw [decide_eq_false (by omega), cond_false]
    obtain ⟨m, hm⟩ : ∃ m, Zy t = m + 1 := ⟨Zy t - 1, by omega⟩
    unfold Zf
    rw [hm]; rfl)
  simpa [Jf] using key
theorem QCf : Qge ⟨n⟩ w = some (Jh n w) := by
  have h6 := hn.tr6
  have key : loop (Qgd ⟨n⟩ w) (0, 0) = some (Jh n w) :=
    Je (fun k => (Jg n w k, (k : Int))) n.Trains.length (fun k hk => by
      have ht := hn.tr _ (List.getElem_mem hk)
      have hb := Qmd hn w k
      have hl := Qgy hn w ht (Zy n.Trains[k] - 1)
      unfold Qgd
      simp only [X3 hk, cond_true, Yb hk, QL]
      rw [QCe hn w ht, QL, XS (x := Jg n w k + Zf n w n.Trains[k]) (by unfold Zf; omega), XZ k (by omega)]
      rw [Qme, List.getElem?_eq_getElem hk]; rfl) (by
      unfold Qgd Jh
      simp only [X4, cond_false])
  unfold Qge
  rw [key]; rfl
theorem Qvr : Qea n w = some (Jh n w) := by
  have h6 := hn.tr6
  have key : loop (Qhr n w) (0, 0) = some (Jh n w) :=
    Je (fun k => (Jg n w k, (k : Int))) n.Trains.length (fun k hk => by
      have ht := hn.tr _ (List.getElem_mem hk)
      have hb := Qmd hn w k
      have hl := Qgy hn w ht (Zy n.Trains[k] - 1)
      unfold Qhr
      simp only [X3 hk, cond_true, Yb hk, QL]
      rw [QKu hn w ht, QL, XS (x := Jg n w k + Zf n w n.Trains[k]) (by unfold Zf; omega), XZ k (by omega)]
      rw [Qme, List.getElem?_eq_getElem hk]; rfl) (by
      unfold Qhr Jh
      simp only [X4, cond_false])
  unfold Qea
  rw [key]; rfl
def Ji (n : FeedNet) (w : FeedWindow) : Bool := decide (1000000 * Qdn n w.Station.toNat * (w.Ticks.Hi - w.Ticks.Lo + 1) < Jh n w)
variable (hs : 0 ≤ w.Station ∧ w.Station ≤ (n.Stations.length : Int) - 1) (ht : 0 ≤ w.Ticks.Lo ∧ w.Ticks.Lo ≤ w.Ticks.Hi ∧ w.Ticks.Hi ≤ 100000)
include hs ht
theorem Qvo : ∃ s, idx n.Stations w.Station = some s ∧ w64 ((w64 (1000000 * s.Limit)) * (w64 ((w64 (w.Ticks.Hi - w.Ticks.Lo)) + 1))) = 1000000 * Qdn n w.Station.toNat * (w.Ticks.Hi - w.Ticks.Lo + 1) := by
  have hk : w.Station.toNat < n.Stations.length := by omega
  have hl := hn.lim _ (List.getElem_mem hk)
  refine ⟨n.Stations[w.Station.toNat], by unfold idx; rw [if_pos hs.1, List.getElem?_eq_getElem hk], ?_⟩
  have hb := Qdp (a := 1000000 * n.Stations[w.Station.toNat].Limit) (b := w.Ticks.Hi - w.Ticks.Lo + 1) (m := 100000000000) (n := 1000000) (by omega) (by omega)
  have e : Qdn n w.Station.toNat = n.Stations[w.Station.toNat].Limit := by unfold Qdn; rw [List.getElem?_eq_getElem hk]; rfl
  rw [e, XS (x := 1000000 * n.Stations[w.Station.toNat].Limit) (by omega), XS (x := w.Ticks.Hi - w.Ticks.Lo) (by omega), XS (x := w.Ticks.Hi - w.Ticks.Lo + 1) (by omega), XS (by omega)]
theorem Qpu : Qaq ⟨n⟩ w = some (Jh n w, Ji n w) := by
  obtain ⟨s, h1, h2⟩ := Qvo hn w hs ht
  unfold Qaq
  rw [QCf hn, QL]
  simp only []
  rw [h1, QL, h2]; rfl
theorem Qvt : Qec n w = some (Ji n w) := by
  obtain ⟨s, h1, h2⟩ := Qvo hn w hs ht
  unfold Qec
  rw [h1, QL, Qvr hn, QL, h2]; rfl
end
end Go.Gw

end
section
set_option maxRecDepth 4096
namespace Go.Gw
open Go
def J5 (a : Int) (t : FeedTrain) : Int := if a < t.Latest then t.Latest else a
def la (n : FeedNet) : Int := n.Trains.foldl J5 0
theorem QHf (n : FeedNet) : (n.Trains.any fun t => decide (48 < t.Latest)) = decide (48 < la n) := by
  have key : ∀ (l : List FeedTrain) (a : Int), (decide (48 < a) || l.any fun t => decide (48 < t.Latest)) = decide (48 < l.foldl J5 a) := by
    intro l
    induction l with
    | nil => intro a; exact Bool.or_false _
    | cons t l ih =>
      intro a
      rw [List.foldl_cons, ← ih, List.any_cons, ← Bool.or_assoc]
      congr 1
      unfold J5
      rw [← Bool.decide_or]
      apply decide_eq_decide.2
      split <;> omega
  exact key n.Trains 0
theorem Qgr {n : FeedNet} (hn : NetOk n) : 0 ≤ la n ∧ la n ≤ 1000 := by
  have key : ∀ (l : List FeedTrain) (a : Int), (∀ t ∈ l, 0 ≤ t.Latest ∧ t.Latest ≤ 1000) → 0 ≤ a ∧ a ≤ 1000 → 0 ≤ l.foldl J5 a ∧ l.foldl J5 a ≤ 1000 := by
    intro l
    induction l with
    | nil => intro a _ h; exact h
    | cons t l ih =>
      intro a hr ha
      have := hr t (List.mem_cons_self ..)
      exact ih _ (fun x hx => hr x (List.mem_cons_of_mem _ hx)) (by unfold J5; split <;> omega)
  exact key n.Trains 0 (fun t ht => (Z6 (hn.tr t ht)).2.1) (by omega)
def Qab (n : FeedNet) : Int := if Ja n ≠ 0 then Ja n else if 48 < la n then 8 else 0
theorem QLe {n : FeedNet} (hs : n.Trains.length < 1000) : Qhw n = some (Qab n) := by
  unfold Qhw Qab
  rw [Qvq hs, QL]
  by_cases hc : Ja n = 0
  · rw [ZZ n.Trains (fun t => decide (48 < t.Latest)) (fun _ _ => (8 : Int)), QL]
    · have e := QHf n
      rcases JP (p := fun t : FeedTrain => decide (48 < t.Latest)) (res := fun _ _ => (8 : Int)) n.Trains 0 with ⟨e1, e2⟩ | ⟨j, x, e1, _, e2⟩
      · rw [e1]; rw [e2] at e
        have : ¬ 48 < la n := fun h => by rw [decide_eq_true h] at e; cases e
        simp [hc, this, jn0]
      · rw [e1]; rw [e2] at e
        have : 48 < la n := by simpa using e.symm
        simp [hc, this, jn0]
    · intro k hk
      unfold Qmv
      rw [X3 hk, cond_true, Yb hk, QL, XZ k (by omega)]
    · unfold Qmv
      rw [X4]; rfl
  · simp [hc]
def wn3 (n : FeedNet) (s lo : Nat) (j : Nat) : Option FeedWindow := if Ji n (FeedWindow.mk s (Range.mk lo ((lo : Int) + (j : Int)))) = true then some (FeedWindow.mk s (Range.mk lo ((lo : Int) + (j : Int)))) else none
def JU (n : FeedNet) (s : Nat) (lo : Nat) : Option FeedWindow := (List.range ((la n).toNat + 13 - lo)).findSome? (wn3 n s lo)
def wn1 (n : FeedNet) (s : Nat) : Option FeedWindow := (List.range ((la n).toNat + 13)).findSome? (JU n s)
def JV (n : FeedNet) : Option FeedWindow := (List.range n.Stations.length).findSome? (wn1 n)
section
variable {n : FeedNet} (hn : NetOk n)
include hn
theorem QCd : loop (Qfv (⟨n⟩, 0)) (0, 0) = some (la n) :=
  have h6 := hn.tr6
  Je (fun k => ((n.Trains.take k).foldl J5 0, (k : Int))) n.Trains.length (fun k hk => by
    unfold Qfv
    simp only [X3 hk, cond_true, Yb hk, QL]
    rw [XZ k (by omega), Qtk _ _ _ _ hk]; rfl) (by
    unfold Qfv la
    simp only [X4, cond_false, List.take_length])
theorem QKt : loop (Qho n) (0, 0) = some (la n) :=
  have h6 := hn.tr6
  Je (fun k => ((n.Trains.take k).foldl J5 0, (k : Int))) n.Trains.length (fun k hk => by
    unfold Qho
    simp only [X3 hk, cond_true, Yb hk, QL]
    rw [XZ k (by omega), Qtk _ _ _ _ hk]; rfl) (by
    unfold Qho la
    simp only [X4, cond_false, List.take_length])
theorem fW1 {s lo : Nat} (hs : s < n.Stations.length) (hlo : lo < (la n).toNat + 13) : loop (Qcy (⟨n⟩, 0) (la n) (s : Int) (lo : Int)) (lo : Int) = some (Ju (JU n s lo) (fun w => .inr (.inl (.inr (.inl (w, 0))))) ()) := by
  have hb := Qgr hn
  have key := Qbs (step := Qcy (⟨n⟩, 0) (la n) (s : Int) (lo : Int)) (ρ := Int ⊕ ((Int ⊕ ((FeedWindow × Int) ⊕ Unit)) ⊕ Unit)) (fun j => (lo : Int) + (j : Int)) ((la n).toNat + 13 - lo) (wn3 n s lo) (fun w => .inr (.inl (.inr (.inl (w, 0))))) () (fun j hj => by
    unfold Qcy
    rw [XS (x := la n + 12) (by omega), decide_eq_true (by omega), cond_true]
    simp only []
    have hp : Qaq (feed_net.mk (FeedNet.mk n.Stations n.Sections n.Trains)) (FeedWindow.mk s (Range.mk lo ((lo : Int) + (j : Int)))) = some (Jh n (FeedWindow.mk s (Range.mk lo ((lo : Int) + (j : Int)))), Ji n (FeedWindow.mk s (Range.mk lo ((lo : Int) + (j : Int))))) :=
      Qpu hn _ (by simp only []; omega) (by simp only []; omega)
    rw [hp, QL, XS (x := (lo : Int) + (j : Int) + 1) (by omega)]
    unfold wn3
    cases Ji n (FeedWindow.mk s (Range.mk lo ((lo : Int) + (j : Int)))) with
    | true => rfl
    | false => simp only [cond_false, Bool.false_eq_true, if_false]; congr 2) (by
    unfold Qcy
    rw [XS (x := la n + 12) (by omega), decide_eq_false (by omega)]; rfl)
  simpa [JU] using key
theorem fW2 {s : Nat} (hs : s < n.Stations.length) : loop (Qcz (⟨n⟩, 0) (la n) (s : Int)) 0 = some (Ju (wn1 n s) (fun w => .inr (.inl (w, 0))) ()) := by
  have hb := Qgr hn
  exact Qbs (step := Qcz (⟨n⟩, 0) (la n) (s : Int)) (ρ := Int ⊕ ((FeedWindow × Int) ⊕ Unit)) (fun j => (j : Int)) ((la n).toNat + 13) (JU n s) (fun w => .inr (.inl (w, 0))) () (fun j hj => by
    unfold Qcz
    rw [XS (x := la n + 12) (by omega), XS (x := la n + 12 + 1) (by omega), decide_eq_true (by omega), cond_true, fW1 hn hs hj, QL, XZ j (by omega)]
    cases JU n s j <;> rfl) (by
    unfold Qcz
    rw [XS (x := la n + 12) (by omega), XS (x := la n + 12 + 1) (by omega), decide_eq_false (by omega)]; rfl)
theorem fW3 : loop (Qda (⟨n⟩, 0) (la n)) 0 = some (Ju (JV n) (fun w => (w, 0)) ()) := by
  have hst := hn.st6
  exact Qbs (step := Qda (⟨n⟩, 0) (la n)) (fun j => (j : Int)) n.Stations.length (wn1 n) (fun w => (w, 0)) () (fun j hj => by
    unfold Qda
    simp only [X3 hj, cond_true]
    rw [fW2 hn hj, QL, XZ j (by omega)]
    cases wn1 n j <;> rfl) (by
    unfold Qda
    simp only [X4, cond_false])
theorem rW1 {s lo : Nat} (hs : s < n.Stations.length) (hlo : lo < (la n).toNat + 13) : loop (Qdw n (la n) (s : Int) (lo : Int)) (lo : Int) = some (Ju (JU n s lo) (fun w => .inr (.inl (.inr (.inl (w, true))))) ()) := by
  have hb := Qgr hn
  have key := Qbs (step := Qdw n (la n) (s : Int) (lo : Int)) (ρ := Int ⊕ ((Int ⊕ ((FeedWindow × Bool) ⊕ Unit)) ⊕ Unit)) (fun j => (lo : Int) + (j : Int)) ((la n).toNat + 13 - lo) (wn3 n s lo) (fun w => .inr (.inl (.inr (.inl (w, true))))) () (fun j hj => by
    unfold Qdw
    rw [XS (x := la n + 12) (by omega), decide_eq_true (by omega), cond_true, Qvt hn _ (by simp only []; omega) (by simp only []; omega), QL, XS (x := (lo : Int) + (j : Int) + 1) (by omega)]
    unfold wn3
    cases Ji n (FeedWindow.mk s (Range.mk lo ((lo : Int) + (j : Int)))) with
    | true => rfl
    | false => simp only [cond_false, Bool.false_eq_true, if_false]; congr 2) (by
    unfold Qdw
    rw [XS (x := la n + 12) (by omega), decide_eq_false (by omega)]; rfl)
  simpa [JU] using key
theorem rW2 {s : Nat} (hs : s < n.Stations.length) : loop (Qdx n (la n) (s : Int)) 0 = some (Ju (wn1 n s) (fun w => .inr (.inl (w, true))) ()) := by
  have hb := Qgr hn
  exact Qbs (step := Qdx n (la n) (s : Int)) (ρ := Int ⊕ ((FeedWindow × Bool) ⊕ Unit)) (fun j => (j : Int)) ((la n).toNat + 13) (JU n s) (fun w => .inr (.inl (w, true))) () (fun j hj => by
    unfold Qdx
    rw [XS (x := la n + 12) (by omega), decide_eq_true (by omega), cond_true, rW1 hn hs hj, QL, XZ j (by omega)]
    cases JU n s j <;> rfl) (by
    unfold Qdx
    rw [XS (x := la n + 12) (by omega), decide_eq_false (by omega)]; rfl)
theorem QKs : Qhp n = some (match JV n with | some w => (w, true) | none => (FeedWindow.mk 0 (Range.mk 0 0), false)) := by
  have hst := hn.st6
  have key : loop (Qdy n (la n)) 0 = some (Ju (JV n) (fun w => (w, true)) ()) := Qbs (step := Qdy n (la n)) (fun j => (j : Int)) n.Stations.length (wn1 n) (fun w => (w, true)) () (fun j hj => by
    unfold Qdy
    simp only [X3 hj, cond_true]
    rw [rW2 hn hj, QL, XZ j (by omega)]
    cases wn1 n j <;> rfl) (by
    unfold Qdy
    simp only [X4, cond_false])
  unfold Qhp
  rw [QKt hn, QL, key, QL]
  cases JV n <;> rfl
end
theorem QCb {n : FeedNet} (h : NetS n) : Qfw n = some (if (Yv n).2 ≠ 0 then (FeedWindow.mk 0 (Range.mk 0 0), (Yv n).2) else if Qab n ≠ 0 then (FeedWindow.mk 0 (Range.mk 0 0), Qab n) else match JV n with | some w => (w, 0) | none => (FeedWindow.mk 0 (Range.mk 0 0), 12)) := by
  have hpl : Qap (feed_net.mk (FeedNet.mk n.Stations n.Sections n.Trains)) = some (Ja n) := QCh h.tr
  unfold Qfw J2
  rw [Qpt h, QL, QL]
  simp only []
  rw [hpl, QL, Jt _ (by simp), QL, QGx]
  by_cases h0 : (Yv n).2 = 0
  · unfold Qab
    by_cases hc : Ja n = 0
    · have hn := Qdq h0
      simp only [h0, hc, ne_eq, not_true_eq_false, if_false, decide_true, Bool.not_true, cond_false]
      rw [QCd hn, QL]
      by_cases hl : 48 < la n
      · simp [hl]
      · rw [decide_eq_false hl, cond_false, fW3 hn, QL]
        cases JV n with
        | some w => simp [hl, Ju, jn0]
        | none => simp [hl, Ju, jn0]
    · simp [h0, hc]
  · simp [h0]
def Z5 (r : Range) : Int := if ZN r.Lo ≠ 0 then 2 else if ZN r.Hi ≠ 0 then 2 else if r.Lo ≤ r.Hi then 0 else 9
theorem Qcb (t : Int) : ZN t = 0 ∨ ZN t = 2 := by unfold ZN; split <;> simp
theorem QCm (r : Range) : Qbm r = some (Z5 r) := by
  unfold Qbm Z5
  rw [Qpv, QL, Qpv, QL, Z7, QL, Jt _ (by simp), QL, Qtl]
  rcases Qcb r.Lo with h1 | h1 <;> rcases Qcb r.Hi with h2 | h2 <;> by_cases h3 : r.Lo ≤ r.Hi <;> simp [h1, h2, h3]
theorem QLa (r : Range) : Qhu r = some (Z5 r) := by
  unfold Qhu Z5
  rw [Qvv, QL, Qvv, show decide (r.Hi < r.Lo) = !decide (r.Lo ≤ r.Hi) by rw [← decide_not]; congr 1; exact propext (by omega)]
  rcases Qcb r.Lo with h1 | h1 <;> rcases Qcb r.Hi with h2 | h2 <;> by_cases h3 : r.Lo ≤ r.Hi <;> simp [h1, h2, h3]
theorem Qyy {t : Int} (h : ZN t = 0) : 0 ≤ t ∧ t ≤ 1012 := by
  unfold ZN at h; split at h; assumption; cases h
theorem Qyz {r : Range} (h : Z5 r = 0) : 0 ≤ r.Lo ∧ r.Lo ≤ r.Hi ∧ r.Hi ≤ 1012 := by
  have a : ZN r.Lo = 0 := by
    rcases Qcb r.Lo with h1 | h1
    · exact h1
    · simp [Z5, h1] at h
  have b : ZN r.Hi = 0 := by
    rcases Qcb r.Hi with h1 | h1
    · exact h1
    · simp [Z5, a, h1] at h
  have c : r.Lo ≤ r.Hi := by
    rcases Decidable.em (r.Lo ≤ r.Hi) with h1 | h1
    · exact h1
    · simp [Z5, a, b, h1] at h
  have a1 := Qyy a
  have b1 := Qyy b
  omega
theorem QBz {n : FeedNet} (h : NetS n) (w : FeedWindow) : Qfu n w = some (if (Yv n).2 ≠ 0 then (0, (Yv n).2) else if Jj n w.Station ≠ 0 then (0, Jj n w.Station) else if Z5 w.Ticks ≠ 0 then (0, Z5 w.Ticks) else if Ji n w = true then (Jh n w, 0) else (0, 20)) := by
  have hst : Qdd (feed_net.mk (FeedNet.mk n.Stations n.Sections n.Trains)) w.Station = some (Jj n w.Station) := QCl h.st _
  unfold Qfu J2
  rw [Qpt h, QL, QL]
  simp only []
  rw [hst, QL, QCm, QL, Jt _ (by simp), QL, Qtl]
  by_cases h0 : (Yv n).2 = 0
  · by_cases h1 : Jj n w.Station = 0
    · by_cases h2 : Z5 w.Ticks = 0
      · have hn := Qdq h0
        have ht := Qyz h2
        have hp : Qaq (feed_net.mk (FeedNet.mk n.Stations n.Sections n.Trains)) w = some (Jh n w, Ji n w) := Qpu hn w (Qyh h1) (by omega)
        rw [hp]
        cases Ji n w <;> simp [h0, h1, h2]
      · simp [h0, h1, h2]
    · simp [h0, h1]
  · simp [h0]
end Go.Gw

end
