/- Laws of the walk. Condition: each theorem says its own. -/
import Derived.Test.YtbplgfhjpeeieaaGwTwin
import Derived.Test.YtbplgfhjpeeieaaGwPlan
import Derived.IntWalk
set_option linter.unusedVariables false
set_option linter.unusedSimpArgs false
set_option linter.unusedSectionVars false
section
set_option maxRecDepth 1000000
namespace Go.Gw
open Go
theorem Qvp : Qqf 60 = some true := by decide +kernel
theorem Qvo : Qef = some true := QCh _ Qvp
end Go.Gw

end
section
set_option linter.unusedSectionVars false
namespace Go.Gw
open Go

theorem Qal {x : Int} (h : -9223372036854775808 ≤ x ∧ x ≤ 9223372036854775807) : w64 x = x := Go.IntWalk.i64_in x h

def Runs {α : Type} (e : Option α) (Q : α → Prop) : Prop := ∃ a, e = some a ∧ Q a

section
variable {α β σ μ : Type} {Q : α → Prop} {e e' : Option α}
theorem Runs.some {a : α} (h : Q a) : Runs (some a) Q := ⟨a, rfl, h⟩
theorem Runs.bind {e : Option β} {f : β → Option α} (h : Runs e fun b => Runs (f b) Q) : Runs (e.bind f) Q := by
  obtain ⟨b, rfl, a, ha, hq⟩ := h; exact ⟨a, ha, hq⟩
theorem Runs.mono {Q' : α → Prop} (h : Runs e Q) (hm : ∀ a, Q a → Q' a) : Runs e Q' := by obtain ⟨a, ha, hq⟩ := h; exact ⟨a, ha, hm _ hq⟩
theorem Runs.eq {a : α} (h : Runs e (· = a)) : e = .some a := by obtain ⟨b, hb, rfl⟩ := h; exact hb
theorem Runs.call {e : Option β} {f : β → Option α} {b : β} (h : e = .some b) (hq : Runs (f b) Q) : Runs (e.bind f) Q := by subst h; exact hq
theorem Runs.bif {b : Bool} (ht : b = true → Runs e Q) (hf : b = false → Runs e' Q) : Runs (bif b then e else e') Q := by
  cases b
  · exact hf rfl
  · exact ht rfl
theorem Runs.jl {b : α} {f : μ → Option α} (h : Q b) : Runs (jn0 (.inl b) f) Q := ⟨b, rfl, h⟩
theorem Runs.j {o : α ⊕ μ} {f : μ → Option α} (hl : ∀ b, o = .inl b → Q b) (hr : ∀ m, o = .inr m → Runs (f m) Q) : Runs (jn0 o f) Q := by
  cases o with
  | inl b => exact Runs.jl (hl b rfl)
  | inr m => exact hr m rfl

def Rnd (I : σ → Prop) (m : σ → Nat) (Q : β → Prop) (s : σ) : σ ⊕ β → Prop
  | .inl s' => I s' ∧ m s' < m s
  | .inr o => Q o
theorem Runs.loop {step : σ → Option (σ ⊕ β)} {s : σ} {Q : β → Prop} (I : σ → Prop) (m : σ → Nat) (h0 : I s) (h : ∀ s, I s → Runs (step s) (Rnd I m Q s)) : Runs (Gw.loop step s) Q := by
  generalize hk : m s = k
  induction k using Nat.strongRecOn generalizing s with
  | _ k ih =>
    obtain ⟨x, hx, hq⟩ := h s h0
    cases x with
    | inl s' =>
      rw [Qje hx]
      exact ih (m s') (by have := hq.2; omega) hq.1 rfl
    | inr o => rw [Qeh hx]; exact ⟨o, rfl, hq⟩
theorem Qjd {step : σ → Option (σ ⊕ β)} {o : β} (S : Nat → σ) (n : Nat) (h : ∀ k, k < n → step (S k) = .some (.inl (S (k + 1)))) (he : step (S n) = .some (.inr o)) : Gw.loop step (S 0) = .some o := by
  have key : ∀ j k, j + k = n → Gw.loop step (S k) = .some o := by
    intro j
    induction j with
    | zero => intro k hk; obtain rfl : k = n := by omega
              exact Qeh he
    | succ j ih => intro k hk; rw [Qje (h k (by omega))]; exact ih (k + 1) (by omega)
  exact key n 0 (by omega)

theorem Runs.idx {xs : List β} {i : Int} {f : β → Option α} (h0 : 0 ≤ i) (h1 : i < xs.length) (h : ∀ x, xs[i.toNat]? = .some x → Runs (f x) Q) : Runs ((Gw.idx xs i).bind f) Q := by
  have hl : i.toNat < xs.length := by omega
  have e : Gw.idx xs i = .some xs[i.toNat] := by unfold Gw.idx; rw [if_pos h0, List.getElem?_eq_getElem hl]
  exact Runs.call e (h _ (List.getElem?_eq_getElem hl))
theorem Ya {xs : List β} {k : Nat} (h : k < xs.length) : Gw.idx xs (k : Int) = .some xs[k] := by
  unfold Gw.idx; rw [if_pos (by omega), Int.toNat_natCast, List.getElem?_eq_getElem h]
theorem Jr {xs ys : List β} (h : xs.length + ys.length ≤ 1073741824) : app xs ys = .some (xs ++ ys) := by unfold app; rw [if_pos h]
end
end Go.Gw

end
section
set_option linter.unusedSectionVars false
namespace Go.Gw
section
variable {α β γ σ ρ : Type}
def XM (p : α → Bool) (res : Nat → α → ρ) : Nat → List α → ρ ⊕ Unit
  | _, [] => .inr ()
  | k, x :: xs => if p x then .inl (res k x) else XM p res (k + 1) xs
theorem Zt {step : Int → Option (Int ⊕ (ρ ⊕ Unit))} (xs : List α) (p : α → Bool) (res : Nat → α → ρ)
    (hs : ∀ k (hk : k < xs.length), step (k : Int) = (bif p xs[k] then some (.inr (.inl (res k xs[k]))) else some (.inl ((k + 1 : Nat) : Int))))
    (he : step (xs.length : Int) = some (.inr (.inr ()))) : loop step 0 = some (XM p res 0 xs) := by
  have key : ∀ j k, j + k = xs.length → loop step (k : Int) = some (XM p res k (xs.drop k)) := by
    intro j
    induction j with
    | zero =>
      intro k hk
      obtain rfl : k = xs.length := by omega
      rw [List.drop_length]
      exact Qeh he
    | succ j ih =>
      intro k hk
      have hlt : k < xs.length := by omega
      rw [List.drop_eq_getElem_cons hlt]
      have := hs k hlt
      cases hp : p xs[k] with
      | true => rw [hp] at this; simp only [XM, hp, if_true]; exact Qeh this
      | false => rw [hp] at this; simp only [XM, hp]; rw [Qje this]; exact ih (k + 1) (by omega)
  have := key xs.length 0 (by omega)
  simpa using this

def fld (f : Nat → γ → α → γ) : Nat → γ → List α → γ
  | _, a, [] => a
  | k, a, x :: xs => fld f (k + 1) (f k a x) xs
def rng (f : Nat → γ → γ) (a : γ) : Nat → γ
  | 0 => a
  | n + 1 => f n (rng f a n)
theorem Yh (k : Nat) (h : k < 4611686018427387904) : w64 ((k : Int) + 1) = ((k + 1 : Nat) : Int) := by rw [Qal (by omega)]; omega
theorem Yc {k n : Nat} (h : k < n) : decide ((k : Int) < (n : Int)) = true := by simp; omega
theorem Yd (n : Nat) : decide ((n : Int) < (n : Int)) = false := by simp
end
end Go.Gw

end
section
set_option maxRecDepth 4096
namespace Go.Gw
open Go

def ZK : List Int → Int
  | [] => 0
  | x :: xs => if x = 0 then ZK xs else x
theorem Jv (l : List Int) (hl : l.length < 1073741824) : YN l = some (ZK l) := by
  unfold YN
  rw [Zt l (fun x => !decide (x = 0)) (fun _ x => x)]
  · have key : ∀ (l : List Int) k, (jn0 (XM (fun x => !decide (x = 0)) (fun _ x => x) k l) fun (_ : Unit) => some 0) = some (ZK l) := by
      intro l
      induction l with
      | nil => intro k; rfl
      | cons x xs ih =>
        intro k
        by_cases h : x = 0
        · simp [XM, ZK, h]; exact ih _
        · simp [XM, ZK, h, jn0]
    simpa using key l 0
  · intro k hk
    unfold Qdo
    rw [Yc hk, Ya hk, Yh k (by omega)]; rfl
  · unfold Qdo
    rw [Yd]; rfl
theorem Jk (b : Bool) (e : Int) : XT b e = some (bif b then 0 else e) := by cases b <;> rfl
theorem Qan (n lo hi : Int) : Ze n lo hi = some (decide (lo ≤ n) && decide (n ≤ hi)) := rfl
theorem Qax (n lo hi : Int) : ZG n lo hi = some (decide (lo ≤ n) && decide (n ≤ hi)) := rfl
theorem QHt (n m : Int) (h : 0 ≤ m) (h2 : m ≤ 9223372036854775807) : J7 n m = some (decide (-m ≤ n) && decide (n ≤ m)) := by
  unfold J7
  rw [Qal (by omega), Qan, Int.zero_sub]; rfl
theorem Qfo {α : Type} (p : α → Bool) : ∀ (l : List α) (k : Nat), (jn0 (β := Int) (XM p (fun k _ => (k : Int)) k l) fun (_ : Unit) => some (-1)) = some (match XM p (fun k _ => (k : Int)) k l with | .inl i => i | .inr _ => -1)
  | l, k => by cases XM p (fun k _ => (k : Int)) k l <;> rfl
theorem Qkh {α : Type} (p : α → Bool) : ∀ (l : List α) (k : Nat), decide (0 ≤ (match XM p (fun k _ => (k : Int)) k l with | .inl i => i | .inr _ => (-1 : Int))) = l.any p
  | [], k => by simp [XM]
  | x :: xs, k => by
    by_cases h : p x = true
    · simp [XM, h]
    · simp only [XM, h, List.any_cons]
      have := Qkh p xs (k + 1)
      simpa [h] using this
theorem JB {α ρ : Type} {p : α → Bool} {res : Nat → α → ρ} : ∀ (l : List α) (k : Nat), (XM p res k l = .inr () ∧ l.any p = false) ∨ ∃ j x, XM p res k l = .inl (res j x) ∧ p x = true ∧ l.any p = true
  | [], k => .inl ⟨rfl, rfl⟩
  | x :: xs, k => by
    by_cases h : p x = true
    · exact .inr ⟨k, x, by simp [XM, h], h, by simp [h]⟩
    · rcases JB xs (k + 1) (p := p) (res := res) with ⟨h1, h2⟩ | ⟨j, y, h1, h2, h3⟩
      · exact .inl ⟨by simp [XM, h, h1], by simp [h, h2]⟩
      · exact .inr ⟨j, y, by simp [XM, h, h1], h2, by simp [h3]⟩
/-! ### Ladders -/
def QCd (l : FeedLadder) : Bool := (l.Ohms.any fun n => !(decide (1 ≤ n) && decide (n ≤ 500))) || (l.Loads.any fun n => !(decide (-20000 ≤ n) && decide (n ≤ 20000)))
def QKj (l : FeedLadder) : Int := if ¬ (0 < l.Loads.length ∧ l.Ohms.length = l.Loads.length + 1) then 10 else if 8 < l.Loads.length then 8 else if QCd l then 2 else 0
end Go.Gw

end
section
set_option maxRecDepth 4096
namespace Go.Gw
open Go
def XF (f : Nat → Int) (n : Nat) : Option Nat := (List.range n).find? fun i => decide (f i ≠ 0)
theorem QBq (f : Nat → Int) (n : Nat) : (XF f n = none ∧ ∀ j, j < n → f j = 0) ∨ ∃ i, XF f n = some i ∧ i < n ∧ f i ≠ 0 ∧ ∀ j, j < i → f j = 0 := by
  cases h : XF f n with
  | none =>
    refine .inl ⟨rfl, fun j hj => ?_⟩
    have := List.find?_eq_none.1 h j (List.mem_range.2 hj)
    simpa using this
  | some i =>
    right
    obtain ⟨h1, h2, h3⟩ := List.find?_range_eq_some.1 h
    exact ⟨i, rfl, List.mem_range.1 h2, by simpa using h1, fun j hj => by have := h3 j hj; simpa using this⟩
theorem ZQ {σ ρ μ : Type} {step : σ → Option (σ ⊕ (ρ ⊕ μ))} (S : Nat → σ) (n : Nat) (f : Nat → Int) (res : Nat → Int → ρ) (o : μ)
    (hs : ∀ k, k < n → (∀ j, j < k → f j = 0) → step (S k) = if f k = 0 then some (.inl (S (k + 1))) else some (.inr (.inl (res k (f k))))) (he : (∀ j, j < n → f j = 0) → step (S n) = some (.inr (.inr o))) :
    loop step (S 0) = some (match XF f n with | some i => .inl (res i (f i)) | none => .inr o) := by
  rcases QBq f n with ⟨h1, h2⟩ | ⟨i, h1, h2, h3, h4⟩
  · rw [h1]
    exact Qjd S n (fun k hk => by rw [hs k hk fun j hj => h2 j (by omega), if_pos (h2 k hk)]) (he h2)
  · rw [h1]
    exact Qjd S i (fun k hk => by rw [hs k (by omega) fun j hj => h4 j (by omega), if_pos (h4 k hk)]) (by rw [hs i h2 h4, if_neg h3])
/-! ### Names -/
def Qat (q : Int × Nat) : Bool := (!(((decide (97 ≤ q.1)) && (decide (q.1 ≤ 122))) || ((decide (65 ≤ q.1)) && (decide (q.1 ≤ 90))))) && ((decide ((q.2 : Int) = 0)) || ((!decide (q.1 = 45)) && ((decide (q.1 < 48)) || (decide (57 < q.1)))))
def bi (s : ByteArray) : List Int := bl s
theorem Qcu (s : ByteArray) : (bi s).length = s.size := Js s
theorem Qpy {s : ByteArray} {k : Nat} (h : k < (bi s).length) : idx (α := Int) (bl s) (k : Int) = some (bi s)[k] := Ya (xs := bi s) h
def Jz (s : ByteArray) : Bool := decide (1 ≤ s.size) && (decide (s.size ≤ 12) && !((bi s).zipIdx.any Qat))
theorem Qsq (s : ByteArray) : s = ByteArray.mk #[] ↔ s.size = 0 := by
  constructor
  · intro h; subst h; rfl
  · intro h
    cases s with
    | mk d =>
      congr 1
      exact Array.eq_empty_of_size_eq_zero h
theorem Qld (s : ByteArray) : Qau s = some (Jz s) := by
  unfold Qau Jz
  have hlen : (bi s).zipIdx.length = s.size := by rw [List.length_zipIdx, Qcu]
  by_cases h : 1 ≤ s.size ∧ s.size ≤ 12
  · have : (decide ((s.size : Int) < 1) || decide (12 < (s.size : Int))) = false := by
      rw [decide_eq_false (by omega), decide_eq_false (by omega)]; rfl
    rw [this, cond_false, Zt (bi s).zipIdx Qat (fun _ _ => false), QS]
    · rcases JB (p := Qat) (res := fun _ _ => false) (bi s).zipIdx 0 with ⟨k1, k2⟩ | ⟨j, x, k1, k2, k3⟩
      · rw [k1, k2]; simp [h, jn0]
      · rw [k1, k3]; simp [jn0]
    · intro k hk
      rw [hlen] at hk
      unfold Qgt
      rw [Yc hk, cond_true, Qpy (show k < (bi s).length by rw [Qcu]; exact hk), QS, Yh k (by omega)]
      simp only [List.getElem_zipIdx, Nat.zero_add]
      rfl
    · rw [hlen]
      unfold Qgt
      rw [Yd]; rfl
  · have : (decide ((s.size : Int) < 1) || decide (12 < (s.size : Int))) = true := by
      by_cases h1 : s.size < 1
      · rw [decide_eq_true (by omega)]; rfl
      · rw [decide_eq_true (p := 12 < (s.size : Int)) (by omega)]; simp
    rw [this, cond_true]
    congr 1
    by_cases h1 : 1 ≤ s.size
    · rw [decide_eq_false (p := s.size ≤ 12) (by omega)]; simp
    · rw [decide_eq_false h1]; rfl
theorem Qxi (s : ByteArray) (hs : s.size ≤ 1000) : Qbf s = some (Jz s) := by
  unfold Qbf Jz
  have hlen : (bi s).zipIdx.length = s.size := by rw [List.length_zipIdx, Qcu]
  have ht : tob s = some (bl s) := by unfold tob; rw [if_pos (by omega)]
  rw [ht, QS, Zt (bi s).zipIdx Qat (fun _ _ => false), QS]
  · rcases JB (p := Qat) (res := fun _ _ => false) (bi s).zipIdx 0 with ⟨k1, k2⟩ | ⟨j, x, k1, k2, k3⟩
    · rw [k1, k2]
      simp only [jn0, Bool.not_false, Bool.and_true, Option.some.injEq]
      by_cases h0 : s.size = 0
      · rw [decide_eq_true ((Qsq s).2 h0), decide_eq_false (show ¬ 1 ≤ s.size by omega)]; rfl
      · rw [decide_eq_false (fun e => h0 ((Qsq s).1 e)), decide_eq_true (show 1 ≤ s.size by omega)]
        simp only [Bool.not_false, Bool.true_and]
        by_cases h1 : s.size ≤ 12
        · rw [decide_eq_true h1, decide_eq_true (by omega)]
        · rw [decide_eq_false h1, decide_eq_false (by omega)]
    · rw [k1, k3]; simp [jn0]
  · intro k hk
    rw [hlen] at hk
    have hk2 : k < (bl s).length := by rw [Js]; exact hk
    unfold Qdq
    rw [Yc hk2, cond_true, Qpy (show k < (bi s).length by rw [Qcu]; exact hk), QS, Yh k (by omega)]
    simp only [List.getElem_zipIdx, Nat.zero_add]
    rfl
  · rw [hlen, show (s.size : Int) = ((bl s).length : Int) by rw [Js]]
    unfold Qdq
    rw [Yd]; rfl
theorem Qwk (l : List ByteArray) (v : ByteArray) (hl : l.length < 1000000) : Qcc l v = some (l.any fun x => decide (v = x)) := by
  unfold Qcc Qfn
  rw [Zt l (fun x => decide (v = x)) (fun k _ => (k : Int)), QS, Qfo, QS, Qkh]
  · intro k hk
    unfold Qfm
    rw [Yc hk, Ya hk, Yh k (by omega)]; rfl
  · unfold Qfm
    rw [Yd]; rfl
def ZR (s : ByteArray) (others : List ByteArray) : Int := if Jz s = false then 4 else if (others.any fun x => decide (s = x)) = true then 5 else 0
theorem Qql (s : ByteArray) (others : List ByteArray) (hs : s.size ≤ 1000) (hl : others.length < 1000000) : J3 s others = some (ZR s others) := by
  unfold J3 ZR
  rw [Qxi s hs, QS, Jk, QS, Qwk _ _ hl, QS, Jk, QS, Jv _ (by simp), QS]
  cases Jz s <;> cases (others.any fun x => decide (s = x)) <;> simp [ZK]
end Go.Gw

end
section
set_option maxRecDepth 4096
namespace Go.Gw
open Go
theorem Qcv {α : Type} {c : Bool} {a b : α} : (bif c then some a else some b) = some (bif c then a else b) := by cases c <;> rfl
def QGc (l r il ir eq sh lo s0 s1 : Bool) : Int := bif (!(l || il)) || !(r || ir) then 6 else bif l && r then 23 else bif eq then 26 else bif !(sh && lo) then 2 else bif (l && !s0) || (r && !s1) then 3 else 0
def Jf (s : FeedSection) (n : Nat) : Int := QGc (decide (s.Left = -1)) (decide (s.Right = -1)) (decide (0 ≤ s.Left) && decide (s.Left ≤ (n : Int) - 1)) (decide (0 ≤ s.Right) && decide (s.Right ≤ (n : Int) - 1)) (decide (s.Left = s.Right))
  (decide (0 ≤ s.Share) && decide (s.Share ≤ 1000)) (decide (0 ≤ s.Loss) && decide (s.Loss ≤ 500)) (decide (s.Share = 0)) (decide (s.Share = 1000))
theorem Qxk (s : FeedSection) (n : Nat) (hn : n < 1000) : Qbl s (n : Int) = some (Jf s n) := by
  unfold Qbl Qbk Jf
  rw [Qal (by omega)]
  simp only [Jk, Qan, QS, Qcv]
  rw [Jv _ (by simp), QS]
  congr 1
  generalize decide (s.Left = -1) = l
  generalize decide (s.Right = -1) = r
  generalize (decide (0 ≤ s.Left) && decide (s.Left ≤ (n : Int) - 1)) = il
  generalize (decide (0 ≤ s.Right) && decide (s.Right ≤ (n : Int) - 1)) = ir
  generalize decide (s.Left = s.Right) = eq
  generalize (decide (0 ≤ s.Share) && decide (s.Share ≤ 1000)) = sh
  generalize (decide (0 ≤ s.Loss) && decide (s.Loss ≤ 500)) = lo
  generalize decide (s.Share = 0) = s0
  generalize decide (s.Share = 1000) = s1
  revert l r il ir eq sh lo s0 s1
  decide +kernel
theorem QFf (m : FeedNet) (s : FeedSection) (hn : m.Stations.length < 1000) : Qfa m s = some (Jf s m.Stations.length) := by
  unfold Qfa Qez Jf
  rw [Qal (by omega)]
  simp only [Qax, QS, Qcv]
  congr 1
  generalize decide (s.Left = -1) = l
  generalize decide (s.Right = -1) = r
  generalize (decide (0 ≤ s.Left) && decide (s.Left ≤ (m.Stations.length : Int) - 1)) = il
  generalize (decide (0 ≤ s.Right) && decide (s.Right ≤ (m.Stations.length : Int) - 1)) = ir
  generalize decide (s.Left = s.Right) = eq
  generalize (decide (0 ≤ s.Share) && decide (s.Share ≤ 1000)) = sh
  generalize (decide (0 ≤ s.Loss) && decide (s.Loss ≤ 500)) = lo
  generalize decide (s.Share = 0) = s0
  generalize decide (s.Share = 1000) = s1
  revert l r il ir eq sh lo s0 s1
  decide +kernel
def Zz (s : FeedStep) (n : Nat) : Int := bif !(decide (0 ≤ s.Section) && decide (s.Section ≤ (n : Int) - 1)) then 6 else bif !(decide (-20000 ≤ s.Power) && decide (s.Power ≤ 20000)) then 2 else 0
def Qki (l : List FeedStep) (n : Nat) : Int := match XF (fun i => (l[i]?.map (Zz · n)).getD 0) l.length with | some i => (l[i]?.map (Zz · n)).getD 0 | none => 0
def QIt (e1 e2 : Bool) (o : Bool) (z : Bool) (m : Bool) (st : Int) : Int := bif !(e1 && e2) then 2 else bif !o then 9 else bif !z then 10 else bif !m then 8 else st
def JW (t : FeedTrain) (n : Nat) : Int := QIt (decide (0 ≤ t.Earliest) && decide (t.Earliest ≤ 1000)) (decide (0 ≤ t.Latest) && decide (t.Latest ≤ 1000)) (decide (t.Earliest ≤ t.Latest)) (decide (0 < (t.Steps.length : Int))) (decide ((t.Steps.length : Int) ≤ 12)) (Qki t.Steps n)
theorem Qpx (l : List FeedStep) (n k : Nat) (hk : k < l.length) : (l[k]?.map (Zz · n)).getD 0 = Zz l[k] n := by rw [List.getElem?_eq_getElem hk]; rfl
theorem Qxn (t : FeedTrain) (n : Nat) (hn : n < 1000) (ht : t.Steps.length < 1000) : Qbo t (n : Int) = some (JW t n) := by
  have key : loop (Qbn (n : Int) t) 0 = some (match XF (fun i => (t.Steps[i]?.map (Zz · n)).getD 0) t.Steps.length with | some i => .inl ((t.Steps[i]?.map (Zz · n)).getD 0) | none => .inr ()) :=
    ZQ (fun k => (k : Int)) t.Steps.length _ (fun _ e => e) () (fun k hk _ => by
      rw [Qpx _ _ _ hk]
      unfold Qbn Zz
      rw [Yc hk, cond_true, Ya hk, QS, Yh k (by omega), Qal (by omega)]
      simp only [Jk, Qan, QS]
      rw [QHt _ _ (by omega) (by omega)]
      simp only [Jk, QS]
      rw [Jv _ (by simp), QS]
      generalize (decide (0 ≤ t.Steps[k].Section) && decide (t.Steps[k].Section ≤ (n : Int) - 1)) = a
      generalize (decide (-20000 ≤ t.Steps[k].Power) && decide (t.Steps[k].Power ≤ 20000)) = b
      cases a <;> cases b <;> rfl) (fun _ => by
      unfold Qbn
      rw [Yd]; rfl)
  unfold Qbo JN
  rw [key]
  unfold JW Qki
  simp only [Jk, Qan, QS, Qcv]
  rw [Jv _ (by simp), QS]
  generalize (decide (0 ≤ t.Earliest) && decide (t.Earliest ≤ 1000)) = e1
  generalize (decide (0 ≤ t.Latest) && decide (t.Latest ≤ 1000)) = e2
  generalize decide (t.Earliest ≤ t.Latest) = o
  generalize decide (0 < (t.Steps.length : Int)) = z
  generalize decide ((t.Steps.length : Int) ≤ 12) = m
  cases XF (fun i => (t.Steps[i]?.map (Zz · n)).getD 0) t.Steps.length with
  | none => cases e1 <;> cases e2 <;> cases o <;> cases z <;> cases m <;> rfl
  | some i => cases e1 <;> cases e2 <;> cases o <;> cases z <;> cases m <;> rfl
theorem QFi (m : FeedNet) (t : FeedTrain) (hn : m.Sections.length < 1000) (ht : t.Steps.length < 1000) : Qfc m t = some (JW t m.Sections.length) := by
  have key : loop (Qfb m t) 0 = some (match XF (fun i => (t.Steps[i]?.map (Zz · m.Sections.length)).getD 0) t.Steps.length with | some i => .inl ((t.Steps[i]?.map (Zz · m.Sections.length)).getD 0) | none => .inr ()) :=
    ZQ (fun k => (k : Int)) t.Steps.length _ (fun _ e => e) () (fun k hk _ => by
      rw [Qpx _ _ _ hk]
      unfold Qfb Qjs Zz
      rw [Yc hk, cond_true, Ya hk, QS, Yh k (by omega), Qal (by omega)]
      simp only [Qax, QS]
      generalize (decide (0 ≤ t.Steps[k].Section) && decide (t.Steps[k].Section ≤ (m.Sections.length : Int) - 1)) = a
      generalize (decide (-20000 ≤ t.Steps[k].Power) && decide (t.Steps[k].Power ≤ 20000)) = b
      cases a <;> cases b <;> rfl) (fun _ => by
      unfold Qfb
      rw [Yd]; rfl)
  unfold Qfc
  rw [key]
  unfold JW Qki
  simp only [Qax, QS, Qcv]
  rw [show decide (t.Latest < t.Earliest) = !decide (t.Earliest ≤ t.Latest) by rw [← decide_not]; congr 1; exact propext (by omega),
    show decide ((t.Steps.length : Int) = 0) = !decide (0 < (t.Steps.length : Int)) by rw [← decide_not]; congr 1; exact propext (by omega),
    show decide (12 < (t.Steps.length : Int)) = !decide ((t.Steps.length : Int) ≤ 12) by rw [← decide_not]; congr 1; exact propext (by omega)]
  generalize (decide (0 ≤ t.Earliest) && decide (t.Earliest ≤ 1000)) = e1
  generalize (decide (0 ≤ t.Latest) && decide (t.Latest ≤ 1000)) = e2
  generalize decide (t.Earliest ≤ t.Latest) = o
  generalize decide (0 < (t.Steps.length : Int)) = z
  generalize decide ((t.Steps.length : Int) ≤ 12) = q
  cases XF (fun i => (t.Steps[i]?.map (Zz · m.Sections.length)).getD 0) t.Steps.length with
  | none => cases e1 <;> cases e2 <;> cases o <;> cases z <;> cases q <;> rfl
  | some i => cases e1 <;> cases e2 <;> cases o <;> cases z <;> cases q <;> rfl
end Go.Gw

end
section
set_option maxRecDepth 4096
namespace Go.Gw
open Go
def stE (s : FeedStation) (others : List ByteArray) : Int := if ZR s.Name others ≠ 0 then ZR s.Name others else bif !(decide (0 ≤ s.Limit) && decide (s.Limit ≤ 100000)) then 2 else 0
def Zy (n : FeedNet) (i : Nat) : Int := (n.Stations[i]?.map fun s => stE s ((n.Stations.take i).map (·.Name))).getD 0
def Zw (n : FeedNet) (i : Nat) : Int := (n.Sections[i]?.map fun s => Jf s n.Stations.length).getD 0
def trE (t : FeedTrain) (others : List ByteArray) (n : Nat) : Int := if ZR t.Name others ≠ 0 then ZR t.Name others else JW t n
def ZB (n : FeedNet) (i : Nat) : Int := (n.Trains[i]?.map fun t => trE t ((n.Trains.take i).map (·.Name)) n.Sections.length).getD 0
def JA (n : FeedNet) : FeedMark × Int :=
  if n.Stations.length = 0 ∨ n.Sections.length = 0 then (FeedMark.mk 0 0, 10) else if 6 < n.Stations.length ∨ 10 < n.Sections.length ∨ 6 < n.Trains.length then (FeedMark.mk 0 0, 8) else
  match XF (Zy n) n.Stations.length with
  | some i => (FeedMark.mk 1 i, Zy n i)
  | none => match XF (Zw n) n.Sections.length with
    | some i => (FeedMark.mk 2 i, Zw n i)
    | none => match XF (ZB n) n.Trains.length with
      | some i => (FeedMark.mk 3 i, ZB n i)
      | none => (FeedMark.mk 0 0, 0)
structure NetS (n : FeedNet) : Prop where
  st : n.Stations.length < 1000
  se : n.Sections.length < 1000
  tr : n.Trains.length < 1000
  sn : ∀ s ∈ n.Stations, s.Name.size ≤ 1000
  tn : ∀ t ∈ n.Trains, t.Name.size ≤ 1000 ∧ t.Steps.length < 1000
theorem Ja {α : Type} (l : List α) (f : α → Int) (k : Nat) (hk : k < l.length) : (l[k]?.map f).getD 0 = f l[k] := by rw [List.getElem?_eq_getElem hk]; rfl
theorem Qkl {α β : Type} (l : List α) (f : α → β) (k : Nat) (hk : k < l.length) : (l.take k).map f ++ [f l[k]] = (l.take (k + 1)).map f := by
  rw [List.take_add_one, List.getElem?_eq_getElem hk, List.map_append]; rfl
theorem Qiw (a b : Int) : ZK [a, b] = if a ≠ 0 then a else b := by
  by_cases h : a = 0
  · by_cases h2 : b = 0 <;> simp [ZK, h, h2]
  · simp [ZK, h]
section
variable {n : FeedNet} (h : NetS n)
include h
theorem Qxm : loop (Qbc n) (([] : List ByteArray), 0) = some (match XF (Zy n) n.Stations.length with | some i => .inl (FeedMark.mk 1 i, Zy n i) | none => .inr ()) :=
  ZQ (fun k => ((n.Stations.take k).map (·.Name), (k : Int))) n.Stations.length (Zy n) (fun i e => (FeedMark.mk 1 i, e)) () (fun k hk _ => by
    have hst := h.st
    have hs : Zy n k = stE n.Stations[k] ((n.Stations.take k).map (·.Name)) := Ja _ _ _ hk
    rw [hs]
    unfold Qbc stE
    simp only [Yc hk, cond_true, Ya hk, QS]
    rw [Qql _ _ (h.sn _ (List.getElem_mem hk)) (by simp; omega), QS]
    simp only [Qan, Jk, QS]
    rw [Jv _ (by simp), QS, Qiw]
    generalize (decide (0 ≤ n.Stations[k].Limit) && decide (n.Stations[k].Limit ≤ 100000)) = b
    by_cases h1 : ZR n.Stations[k].Name ((n.Stations.take k).map (·.Name)) = 0
    · simp only [h1, ne_eq, not_true_eq_false, if_false]
      cases b
      · rfl
      · simp only [cond_true, decide_true, Bool.not_true, cond_false, if_true]
        rw [Jr (by simp; omega), QS, Qkl n.Stations (·.Name) k hk, Yh k (by omega)]
    · simp only [ne_eq, h1, not_false_eq_true, if_true, decide_false, Bool.not_false, cond_true, if_false]) (fun _ => by
    unfold Qbc
    simp only [Yd]; rfl)
theorem Qxl : loop (Qbd n) 0 = some (match XF (Zw n) n.Sections.length with | some i => .inl (FeedMark.mk 2 i, Zw n i) | none => .inr ()) :=
  ZQ (fun k => (k : Int)) n.Sections.length (Zw n) (fun i e => (FeedMark.mk 2 i, e)) () (fun k hk _ => by
    have hse := h.se
    have hs : Zw n k = Jf n.Sections[k] n.Stations.length := Ja _ _ _ hk
    rw [hs]
    unfold Qbd
    rw [Yc hk, cond_true, Ya hk, QS, Qxk _ _ h.st, QS, Yh k (by omega)]
    by_cases h1 : Jf n.Sections[k] n.Stations.length = 0
    · simp [h1]
    · simp [h1]) (fun _ => by
    unfold Qbd
    rw [Yd]; rfl)
theorem Qxp : loop (Qbe n) (([] : List ByteArray), 0) = some (match XF (ZB n) n.Trains.length with | some i => .inl (FeedMark.mk 3 i, ZB n i) | none => .inr ()) :=
  ZQ (fun k => ((n.Trains.take k).map (·.Name), (k : Int))) n.Trains.length (ZB n) (fun i e => (FeedMark.mk 3 i, e)) () (fun k hk _ => by
    have hst := h.tr
    have hs : ZB n k = trE n.Trains[k] ((n.Trains.take k).map (·.Name)) n.Sections.length := Ja _ _ _ hk
    rw [hs]
    unfold Qbe trE
    simp only [Yc hk, cond_true, Ya hk, QS]
    rw [Qql _ _ (h.tn _ (List.getElem_mem hk)).1 (by simp; omega), QS, Qxn _ _ h.se (h.tn _ (List.getElem_mem hk)).2, QS]
    rw [Jv _ (by simp), QS, Qiw]
    by_cases h1 : ZR n.Trains[k].Name ((n.Trains.take k).map (·.Name)) = 0
    · simp only [h1, ne_eq, not_true_eq_false, if_false]
      by_cases h2 : JW n.Trains[k] n.Sections.length = 0
      · simp only [h2, decide_true, Bool.not_true, cond_false, if_true]
        rw [Jr (by simp; omega), QS, Qkl n.Trains (·.Name) k hk, Yh k (by omega)]
      · simp [h2]
    · simp only [ne_eq, h1, not_false_eq_true, if_true, decide_false, Bool.not_false, cond_true, if_false]) (fun _ => by
    unfold Qbe
    simp only [Yd]; rfl)
theorem Qmj : J2 n = some (JA n) := by
  unfold J2 JA
  rw [Qxm h, Qxl h, Qxp h]
  simp only [Jk, QS]
  rw [Jv _ (by simp), QS, Qiw]
  by_cases h1 : n.Stations.length = 0 ∨ n.Sections.length = 0
  · rw [if_pos h1]
    have : (decide (0 < (n.Stations.length : Int)) && decide (0 < (n.Sections.length : Int))) = false := by
      rw [Bool.eq_false_iff]; intro e; simp at e; omega
    rw [this]; rfl
  · rw [if_neg h1]
    have : (decide (0 < (n.Stations.length : Int)) && decide (0 < (n.Sections.length : Int))) = true := by
      simp; omega
    rw [this]
    by_cases h2 : 6 < n.Stations.length ∨ 10 < n.Sections.length ∨ 6 < n.Trains.length
    · rw [if_pos h2]
      have : ((decide ((n.Stations.length : Int) ≤ 6) && decide ((n.Sections.length : Int) ≤ 10)) && decide ((n.Trains.length : Int) ≤ 6)) = false := by
        rw [Bool.eq_false_iff]; intro e; simp at e; omega
      rw [this]; rfl
    · rw [if_neg h2]
      have : ((decide ((n.Stations.length : Int) ≤ 6) && decide ((n.Sections.length : Int) ≤ 10)) && decide ((n.Trains.length : Int) ≤ 6)) = true := by
        simp; omega
      rw [this]
      cases XF (Zy n) n.Stations.length with
      | some i => rfl
      | none =>
        cases XF (Zw n) n.Sections.length with
        | some i => rfl
        | none =>
          cases XF (ZB n) n.Trains.length with
          | some i => rfl
          | none => rfl
end
end Go.Gw

end
section
set_option maxRecDepth 4096
namespace Go.Gw
open Go
theorem Qtv {α : Type} {p : α → Bool} : ∀ (l : List α) (k m : Nat) (hk : k < l.length), p l[k] = true → ∃ j : Nat, XM p (fun k _ => (k : Int)) m l = .inl ((m + j : Nat) : Int) ∧ (j < k ↔ (l.take k).any p = true)
  | x :: xs, 0, m, _, hp => ⟨0, by simp at hp; simp [XM, hp], by simp⟩
  | x :: xs, k + 1, m, hk, hp => by
    by_cases hx : p x = true
    · exact ⟨0, by simp [XM, hx], by simp [hx]⟩
    · obtain ⟨j, h1, h2⟩ := Qtv xs k (m + 1) (by simpa using hk) (by simpa using hp)
      refine ⟨j + 1, by simp only [XM, hx]; rw [← show m + 1 + j = m + (j + 1) by omega]; simpa using h1, ?_⟩
      simp only [List.take_succ_cons, List.any_cons, hx]
      rw [← (show ((l : Bool) → (false || l) = l) from fun l => by cases l <;> rfl) ((xs.take k).any p)] at h2
      constructor
      · intro h; simpa using h2.1 (by omega)
      · intro h; have := h2.2 (by simpa using h); omega
theorem Qlc {α : Type} (f : α → ByteArray) (l : List α) (s : ByteArray) : ((l.map f).any fun x => decide (s = x)) = l.any fun y => decide (f y = s) := by
  rw [List.any_map]
  congr 1
  funext y
  exact decide_eq_decide.2 eq_comm
def Yg (n : FeedNet) (s : ByteArray) : Int := match XM (fun t : FeedTrain => decide (t.Name = s)) (fun k _ => (k : Int)) 0 n.Trains with | .inl i => i | .inr _ => -1
theorem Qru (n : FeedNet) (s : ByteArray) (h : n.Trains.length < 1000000) : Qbx n s = some (Yg n s) := by
  unfold Qbx Yg
  rw [Zt n.Trains (fun t => decide (t.Name = s)) (fun k _ => (k : Int)), QS, Qfo]
  all_goals first
    | (intro k hk; unfold Qjr; rw [Yc hk, cond_true, Ya hk, QS, Yh k (by omega)])
    | (unfold Qjr; rw [Yd]; rfl)
    | rfl
section
variable {n : FeedNet} (h : NetS n)
include h
theorem QFh : loop (Qes n) 0 = some (match XF (Zy n) n.Stations.length with | some i => .inl (FeedMark.mk 1 i, Zy n i) | none => .inr ()) :=
  ZQ (fun k => (k : Int)) n.Stations.length (Zy n) (fun i e => (FeedMark.mk 1 i, e)) () (fun k hk _ => by
    have hst := h.st
    have hs : Zy n k = stE n.Stations[k] ((n.Stations.take k).map (·.Name)) := Ja _ _ _ hk
    have hlen : (n.Stations.take k).length = k := by simp; omega
    have inner : loop (Qer n (k : Int)) 0 = some (XM (fun y : FeedStation => decide (y.Name = n.Stations[k].Name)) (fun _ _ => Sum.inr (α := Int) (Sum.inl (β := Unit) (FeedMark.mk 1 (k : Int), (5 : Int)))) 0 (n.Stations.take k)) :=
      Zt (n.Stations.take k) _ _ (fun j hj => by
        rw [hlen] at hj
        unfold Qer
        rw [Yc hj, cond_true, Ya (show j < n.Stations.length by omega), QS, Ya hk, QS, Yh j (by omega)]
        simp only [List.getElem_take]) (by
        rw [hlen]
        unfold Qer
        rw [Yd]; rfl)
    rw [hs]
    unfold Qes stE ZR
    rw [Yc hk, cond_true, Ya hk, QS, Qld, QS, inner, Qlc]
    cases hn : Jz n.Stations[k].Name
    · rfl
    · simp only [Bool.not_true, cond_false, QS]
      rcases JB (p := fun y : FeedStation => decide (y.Name = n.Stations[k].Name)) (res := fun _ _ => Sum.inr (α := Int) (Sum.inl (β := Unit) (FeedMark.mk 1 (k : Int), (5 : Int)))) (n.Stations.take k) 0 with ⟨k1, k2⟩ | ⟨j, x, k1, k2, k3⟩
      · rw [k1, k2]
        simp only [jn0, QS, Qax, Yh k (show k < 4611686018427387904 by omega)]
        generalize (decide (0 ≤ n.Stations[k].Limit) && decide (n.Stations[k].Limit ≤ 100000)) = b
        cases b <;> rfl
      · rw [k1, k3]; rfl) (fun _ => by
    unfold Qes
    rw [Yd]; rfl)
theorem QFg : loop (Qet n) 0 = some (match XF (Zw n) n.Sections.length with | some i => .inl (FeedMark.mk 2 i, Zw n i) | none => .inr ()) :=
  ZQ (fun k => (k : Int)) n.Sections.length (Zw n) (fun i e => (FeedMark.mk 2 i, e)) () (fun k hk _ => by
    have hse := h.se
    have hs : Zw n k = Jf n.Sections[k] n.Stations.length := Ja _ _ _ hk
    rw [hs]
    unfold Qet
    rw [Yc hk, cond_true, Ya hk, QS, QFf _ _ h.st, QS, Yh k (by omega)]
    by_cases h1 : Jf n.Sections[k] n.Stations.length = 0
    · simp [h1]
    · simp [h1]) (fun _ => by
    unfold Qet
    rw [Yd]; rfl)
theorem QFj : loop (Qeu n) 0 = some (match XF (ZB n) n.Trains.length with | some i => .inl (FeedMark.mk 3 i, ZB n i) | none => .inr ()) :=
  ZQ (fun k => (k : Int)) n.Trains.length (ZB n) (fun i e => (FeedMark.mk 3 i, e)) () (fun k hk _ => by
    have hst := h.tr
    have hs : ZB n k = trE n.Trains[k] ((n.Trains.take k).map (·.Name)) n.Sections.length := Ja _ _ _ hk
    obtain ⟨j, hj1, hj2⟩ := Qtv (p := fun t : FeedTrain => decide (t.Name = n.Trains[k].Name)) n.Trains k 0 hk (by simp)
    have ht : Yg n n.Trains[k].Name = (j : Int) := by unfold Yg; rw [hj1]; simp
    rw [hs]
    unfold Qeu trE ZR
    rw [Yc hk, cond_true, Ya hk, QS, Qld, QS, Qlc]
    cases hn : Jz n.Trains[k].Name
    · rfl
    · simp only [Bool.not_true, cond_false, QS]
      rw [Qru _ _ (by omega), ht, QS, QFi _ _ h.se (h.tn _ (List.getElem_mem hk)).2, QS, Yh k (by omega)]
      cases ha : (n.Trains.take k).any (fun t => decide (t.Name = n.Trains[k].Name)) with
      | true =>
        rw [decide_eq_true (show (j : Int) < k by have := hj2.2 ha; omega)]; rfl
      | false =>
        rw [decide_eq_false (show ¬ (j : Int) < k by intro e; have := hj2.1 (by omega); rw [ha] at this; cases this)]
        by_cases h2 : JW n.Trains[k] n.Sections.length = 0
        · simp [h2]
        · simp [h2]) (fun _ => by
    unfold Qeu
    rw [Yd]; rfl)
theorem QFe : Qev n = some (JA n) := by
  unfold Qev JA
  rw [QFh h, QFg h, QFj h]
  by_cases h1 : n.Stations.length = 0 ∨ n.Sections.length = 0
  · rw [if_pos h1]
    have : (decide ((n.Stations.length : Int) = 0) || decide ((n.Sections.length : Int) = 0)) = true := by
      simp only [Bool.or_eq_true, decide_eq_true_eq]; omega
    rw [this]; rfl
  · rw [if_neg h1]
    have : (decide ((n.Stations.length : Int) = 0) || decide ((n.Sections.length : Int) = 0)) = false := by
      rw [decide_eq_false (by omega), decide_eq_false (by omega)]; rfl
    rw [this, cond_false]
    by_cases h2 : 6 < n.Stations.length ∨ 10 < n.Sections.length ∨ 6 < n.Trains.length
    · rw [if_pos h2]
      have : ((decide (6 < (n.Stations.length : Int)) || decide (10 < (n.Sections.length : Int))) || decide (6 < (n.Trains.length : Int))) = true := by
        simp only [Bool.or_eq_true, decide_eq_true_eq]; omega
      rw [this]; rfl
    · rw [if_neg h2]
      have : ((decide (6 < (n.Stations.length : Int)) || decide (10 < (n.Sections.length : Int))) || decide (6 < (n.Trains.length : Int))) = false := by
        rw [decide_eq_false (by omega), decide_eq_false (by omega), decide_eq_false (by omega)]; rfl
      rw [this, cond_false]
      cases XF (Zy n) n.Stations.length with
      | some i => rfl
      | none =>
        cases XF (Zw n) n.Sections.length with
        | some i => rfl
        | none =>
          cases XF (ZB n) n.Trains.length with
          | some i => rfl
          | none => rfl
end
end Go.Gw

end
section
set_option maxRecDepth 4096
namespace Go.Gw
open Go
theorem Qwm (l : List FeedDeparture) (h : l.length < 1000000) : Qew l = some l := by
  unfold Qew; rw [Jr (by simp; omega)]; rfl
theorem Qwn {n : FeedNet} (h : NetS n) : Qbw n = some n := by
  have key : loop (Qex n) (0, ([] : List FeedTrain)) = some n.Trains :=
    Qjd (fun k => ((k : Int), n.Trains.take k)) n.Trains.length (fun k hk => by
      have hst := h.tr
      have hsteps := (h.tn _ (List.getElem_mem hk)).2
      unfold Qex
      simp only [Yc hk, cond_true, Ya hk, QS]
      rw [Jr (by simp; omega), QS, Jr (by simp; omega), QS, Yh k (by omega), List.nil_append]
      congr 3
      rw [List.take_add_one, List.getElem?_eq_getElem hk]; rfl) (by
      unfold Qex
      simp only [Yd, cond_false, List.take_length])
  unfold Qbw
  have h1 := h.st
  have h2 := h.se
  rw [Jr (by simp; omega), Jr (by simp; omega), key]
  rfl
def Qbp (n : FeedNet) : Bool := !(decide (8 < n.Stations.length) || decide (12 < n.Sections.length) || decide (8 < n.Trains.length)) && !(n.Stations.any fun s => decide (20 < (s.Name.size : Int))) && !(n.Trains.any fun t => decide (20 < (t.Name.size : Int)) || decide (14 < (t.Steps.length : Int)))
theorem QBs (n : FeedNet) : Qec n = some (Qbp n) := by
  unfold Qec Qbp
  by_cases h : 8 < n.Stations.length ∨ 12 < n.Sections.length ∨ 8 < n.Trains.length
  · have e1 : ((decide (8 < (n.Stations.length : Int)) || decide (12 < (n.Sections.length : Int))) || decide (8 < (n.Trains.length : Int))) = true := by
      simp only [Bool.or_eq_true, decide_eq_true_eq]; omega
    have e2 : (decide (8 < n.Stations.length) || decide (12 < n.Sections.length) || decide (8 < n.Trains.length)) = true := by
      simp only [Bool.or_eq_true, decide_eq_true_eq]; omega
    rw [e1, e2]; rfl
  · have e1 : ((decide (8 < (n.Stations.length : Int)) || decide (12 < (n.Sections.length : Int))) || decide (8 < (n.Trains.length : Int))) = false := by
      rw [decide_eq_false (by omega), decide_eq_false (by omega), decide_eq_false (by omega)]; rfl
    have e2 : (decide (8 < n.Stations.length) || decide (12 < n.Sections.length) || decide (8 < n.Trains.length)) = false := by
      rw [decide_eq_false (by omega), decide_eq_false (by omega), decide_eq_false (by omega)]; rfl
    rw [e1, e2, cond_false, Zt n.Stations (fun s => decide (20 < (s.Name.size : Int))) (fun _ _ => false), QS, Zt n.Trains (fun t => decide (20 < (t.Name.size : Int)) || decide (14 < (t.Steps.length : Int))) (fun _ _ => false)]
    · rcases JB (p := fun s : FeedStation => decide (20 < (s.Name.size : Int))) (res := fun _ _ => false) n.Stations 0 with ⟨k1, k2⟩ | ⟨j, x, k1, k2, k3⟩
      · rw [k1, k2]
        rcases JB (p := fun t : FeedTrain => decide (20 < (t.Name.size : Int)) || decide (14 < (t.Steps.length : Int))) (res := fun _ _ => false) n.Trains 0 with ⟨k3, k4⟩ | ⟨j, x, k3, k4, k5⟩
        · rw [k3, k4]; rfl
        · rw [k3, k5]; rfl
      · rw [k1, k3]; rfl
    · intro k hk
      unfold Qjb
      rw [Yc hk, cond_true, Ya hk, QS, Yh k (by omega)]
      cases h1 : decide (20 < (n.Trains[k].Name.size : Int)) <;> simp
    · unfold Qjb
      rw [Yd]; rfl
    · intro k hk
      unfold Qja
      rw [Yc hk, cond_true, Ya hk, QS, Yh k (by omega)]
    · unfold Qja
      rw [Yd]; rfl
theorem QBr {n : FeedNet} (h : Qbp n = true) : NetS n := by
  unfold Qbp at h
  simp only [Bool.and_eq_true, Bool.not_eq_true', Bool.or_eq_false_iff, decide_eq_false_iff_not, List.any_eq_false] at h
  obtain ⟨⟨⟨⟨h1, h2⟩, h3⟩, h4⟩, h5⟩ := h
  refine ⟨by omega, by omega, by omega, fun s hs => ?_, fun t ht => ?_⟩
  · have := h4 s hs; simp at this; omega
  · have := h5 t ht; simp at this; omega
def Qca (l : List FeedDeparture) : Bool := !(decide (8 < l.length)) && !(l.any fun d => decide (20 < (d.Train.size : Int)))
theorem QGj (l : List FeedDeparture) : Qeg l = some (Qca l) := by
  unfold Qeg Qca
  by_cases h : 8 < l.length
  · rw [decide_eq_true (show 8 < (l.length : Int) by omega), decide_eq_true h]; rfl
  · rw [decide_eq_false (show ¬ 8 < (l.length : Int) by omega), decide_eq_false h, cond_false, Zt l (fun d => decide (20 < (d.Train.size : Int))) (fun _ _ => false)]
    · rcases JB (p := fun d : FeedDeparture => decide (20 < (d.Train.size : Int))) (res := fun _ _ => false) l 0 with ⟨k1, k2⟩ | ⟨j, x, k1, k2, k3⟩
      · rw [k1, k2]; rfl
      · rw [k1, k3]; rfl
    · intro k hk
      unfold Qjc
      rw [Yc hk, cond_true, Ya hk, QS, Yh k (by omega)]
    · unfold Qjc
      rw [Yd]; rfl
theorem QGi {l : List FeedDeparture} (h : Qca l = true) : l.length ≤ 8 := by
  unfold Qca at h; simp at h; omega
end Go.Gw

end
section
set_option maxRecDepth 4096
namespace Go.Gw
open Go
def Jt (n : FeedNet) (d : FeedDeparture) (others : List FeedDeparture) : Int := if Yg n d.Train < 0 then 6 else if (others.any fun o => decide (o.Train = d.Train)) = true then 26 else bif !(decide (0 ≤ d.At) && decide (d.At ≤ 1000)) then 2 else 0
def YC (n : FeedNet) (l : List FeedDeparture) (i : Nat) : Int := (l[i]?.map fun d => Jt n d (l.take i)).getD 0
def Jc (n : FeedNet) (d : FeedDeparture) : feed_run := feed_run.mk (n.Trains[(Yg n d.Train).toNat]?.getD default) d.At
theorem Qum {n : FeedNet} {s : ByteArray} (h : 0 ≤ Yg n s) : ∃ t, n.Trains[(Yg n s).toNat]? = some t ∧ t.Name = s ∧ (Yg n s).toNat < n.Trains.length := by
  have key : ∀ (l : List FeedTrain) (m : Nat), (XM (fun t : FeedTrain => decide (t.Name = s)) (fun k _ => (k : Int)) m l = .inr ()) ∨ ∃ (j : Nat) (t : FeedTrain), XM (fun t : FeedTrain => decide (t.Name = s)) (fun k _ => (k : Int)) m l = .inl ((m + j : Nat) : Int) ∧ l[j]? = some t ∧ t.Name = s := by
    intro l
    induction l with
    | nil => intro m; exact .inl rfl
    | cons x xs ih =>
      intro m
      by_cases hx : x.Name = s
      · exact .inr ⟨0, x, by simp [XM, hx], rfl, hx⟩
      · rcases ih (m + 1) with h1 | ⟨j, t, h1, h2, h3⟩
        · exact .inl (by simp [XM, hx, h1])
        · exact .inr ⟨j + 1, t, by simp only [XM, hx, decide_false]; rw [← show m + 1 + j = m + (j + 1) by omega]; simpa using h1, h2, h3⟩
  rcases key n.Trains 0 with h1 | ⟨j, t, h1, h2, h3⟩
  · unfold Yg at h; rw [h1] at h; simp at h
  · have e : Yg n s = (j : Int) := by unfold Yg; rw [h1]; simp
    rw [e]
    exact ⟨t, by simpa using h2, h3, by simpa using (List.getElem?_eq_some_iff.1 h2).1⟩
theorem Qxo (n : FeedNet) (s : ByteArray) (h : n.Trains.length < 1000000) : Qbh ⟨n⟩ s = some (Yg n s) := by
  unfold Qbh Qfj Yg
  rw [Zt n.Trains (fun t => decide (t.Name = s)) (fun k _ => (k : Int)), QS, Qfo]
  · rfl
  · intro k hk
    unfold Qfi
    rw [Yc hk, cond_true, Ya hk, QS, Yh k (by omega)]; rfl
  · unfold Qfi
    rw [Yd]; rfl
theorem Qwb (l : List feed_run) (d : FeedDeparture) (hl : l.length < 1000000) : Qcb l d = some (l.any fun r => decide (r.FeedTrain.Name = d.Train)) := by
  unfold Qcb Qfl
  rw [Zt l (fun r => decide (r.FeedTrain.Name = d.Train)) (fun k _ => (k : Int)), QS, Qfo, QS, Qkh]
  · intro k hk
    unfold Qfk
    rw [Yc hk, cond_true, Ya hk, QS, Yh k (by omega)]; rfl
  · unfold Qfk
    rw [Yd]; rfl
theorem Qwo {n : FeedNet} {d : FeedDeparture} {o : List FeedDeparture} (h : Jt n d o = 0) : 0 ≤ Yg n d.Train := by
  unfold Jt at h
  split at h
  · cases h
  · omega
theorem QGa {n : FeedNet} (s : ByteArray) (l : List FeedDeparture) (h : ∀ d ∈ l, 0 ≤ Yg n d.Train) : ((l.map (Jc n)).any fun r => decide (r.FeedTrain.Name = s)) = l.any fun d => decide (d.Train = s) := by
  rw [List.any_map]
  induction l with
  | nil => rfl
  | cons d l ih =>
    simp only [List.any_cons]
    rw [ih fun x hx => h x (List.mem_cons_of_mem _ hx)]
    congr 1
    obtain ⟨t, h1, h2, _⟩ := Qum (h d (List.mem_cons_self ..))
    simp [Jc, h1, h2]
theorem QBv (a b c : Int) : ZK [a, b, c] = if a ≠ 0 then a else if b ≠ 0 then b else c := by
  by_cases h : a = 0 <;> by_cases h2 : b = 0 <;> by_cases h3 : c = 0 <;> simp [ZK, h, h2, h3]
theorem Qxj (n : FeedNet) (l : List FeedDeparture) (hn : n.Trains.length < 1000) : J4 ⟨n⟩ l = some (if 6 < l.length then ([], 0, 8) else match XF (YC n l) l.length with | some i => ([], (i : Int), YC n l i) | none => (l.map (Jc n), 0, 0)) := by
  unfold J4
  by_cases h6 : 6 < l.length
  · rw [decide_eq_true (show 6 < (l.length : Int) by omega), if_pos h6]; rfl
  · rw [decide_eq_false (show ¬ 6 < (l.length : Int) by omega), if_neg h6, cond_false]
    have key : loop (Qbg l ⟨n⟩) (([] : List feed_run), 0) = some (match XF (YC n l) l.length with | some i => .inl ([], (i : Int), YC n l i) | none => .inr (l.map (Jc n))) :=
      ZQ (fun k => ((l.take k).map (Jc n), (k : Int))) l.length (YC n l) (fun i e => (([] : List feed_run), (i : Int), e)) (l.map (Jc n)) (fun k hk hpre => by
        have hs : YC n l k = Jt n l[k] (l.take k) := Ja _ _ _ hk
        have hall : ∀ d ∈ l.take k, 0 ≤ Yg n d.Train := fun d hd => by
          obtain ⟨j, hj, rfl⟩ := List.mem_iff_getElem.1 hd
          have hjk : j < k := by rw [List.length_take] at hj; omega
          have := hpre j hjk
          rw [show YC n l j = Jt n l[j] (l.take j) from Ja _ _ _ (by omega)] at this
          rw [List.getElem_take]
          exact Qwo this
        rw [hs]
        unfold Qbg
        simp only [Yc hk, cond_true, Ya hk, QS]
        rw [Qxo n _ (by omega), QS, Qwb _ _ (by simp; omega), QS, QGa _ _ hall]
        unfold JN
        simp only [Jk, Qan, QS]
        rw [Jv _ (by simp), QS, QBv]
        unfold Jt
        generalize (decide (0 ≤ l[k].At) && decide (l[k].At ≤ 1000)) = b
        generalize ((l.take k).any fun d => decide (d.Train = l[k].Train)) = tw
        by_cases ht : Yg n l[k].Train < 0
        · rw [decide_eq_false (show ¬ 0 ≤ Yg n l[k].Train by omega)]
          simp [ht]
        · rw [decide_eq_true (show 0 ≤ Yg n l[k].Train by omega), if_neg ht]
          cases tw
          · cases b
            · rfl
            · simp only [cond_true, Bool.not_false, Bool.not_true, cond_false, ne_eq, not_true_eq_false, if_false, decide_true]
              obtain ⟨t, h1, h2, h3⟩ := Qum (show 0 ≤ Yg n l[k].Train by omega)
              have hidx : idx n.Trains (Yg n l[k].Train) = some t := by unfold idx; rw [if_pos (by omega)]; exact h1
              rw [hidx, QS, Jr (by simp; omega), QS, Yh k (by omega)]
              have : feed_run.mk t l[k].At = Jc n l[k] := by unfold Jc; rw [h1]; rfl
              rw [this, Qkl l (Jc n) k hk]
              rfl
          · rfl) (fun _ => by
        unfold Qbg
        simp only [Yd, cond_false, List.take_length])
    rw [key, QS]
    cases XF (YC n l) l.length <;> rfl
theorem QFd (n : FeedNet) (l : List FeedDeparture) (hn : n.Trains.length < 1000) : Qeq n l = some (if 6 < l.length then (0, 8) else match XF (YC n l) l.length with | some i => ((i : Int), YC n l i) | none => (0, 0)) := by
  unfold Qeq
  by_cases h6 : 6 < l.length
  · rw [decide_eq_true (show 6 < (l.length : Int) by omega), if_pos h6]; rfl
  · rw [decide_eq_false (show ¬ 6 < (l.length : Int) by omega), if_neg h6, cond_false]
    have key : loop (Qep l n) 0 = some (match XF (YC n l) l.length with | some i => .inl ((i : Int), YC n l i) | none => .inr ()) :=
      ZQ (fun k => (k : Int)) l.length (YC n l) (fun i e => ((i : Int), e)) () (fun k hk _ => by
        have hs : YC n l k = Jt n l[k] (l.take k) := Ja _ _ _ hk
        have hlen : (l.take k).length = k := by simp; omega
        have inner : loop (Qeo l (k : Int)) 0 = some (XM (fun y : FeedDeparture => decide (y.Train = l[k].Train)) (fun _ _ => Sum.inr (α := Int) (Sum.inl (β := Unit) ((k : Int), (26 : Int)))) 0 (l.take k)) :=
          Zt (l.take k) _ _ (fun j hj => by
            rw [hlen] at hj
            unfold Qeo
            rw [Yc hj, cond_true, Ya (show j < l.length by omega), QS, Ya hk, QS, Yh j (by omega)]
            simp only [List.getElem_take]) (by
            rw [hlen]
            unfold Qeo
            rw [Yd]; rfl)
        rw [hs]
        unfold Qep Jt
        rw [Yc hk, cond_true, Ya hk, QS, Qru _ _ (by omega), QS, inner]
        by_cases ht : Yg n l[k].Train < 0
        · rw [decide_eq_true ht, if_pos ht]; rfl
        · rw [decide_eq_false ht, if_neg ht, cond_false, QS]
          rcases JB (p := fun y : FeedDeparture => decide (y.Train = l[k].Train)) (res := fun _ _ => Sum.inr (α := Int) (Sum.inl (β := Unit) ((k : Int), (26 : Int)))) (l.take k) 0 with ⟨k1, k2⟩ | ⟨j, x, k1, k2, k3⟩
          · rw [k1, k2]
            simp only [jn0, QS, Qax, Yh k (show k < 4611686018427387904 by omega)]
            generalize (decide (0 ≤ l[k].At) && decide (l[k].At ≤ 1000)) = b
            cases b <;> rfl
          · rw [k1, k3]; rfl) (fun _ => by
        unfold Qep
        rw [Yd]; rfl)
    rw [key, QS]
    cases XF (YC n l) l.length <;> rfl
end Go.Gw

end
