/- Laws of the walk. Condition: each theorem says its own. -/
import Derived.Test.YtbplgfhjpeeieaaGwTwin
import Derived.Test.YtbplgfhjpeeieaaGwPlan
import Derived.IntWalk
import Derived.Test.YtbplgfhjpeeieaaGwLawFeedLoads
set_option linter.unusedVariables false
set_option linter.unusedSimpArgs false
set_option linter.unusedSectionVars false
section
set_option maxRecDepth 1000000
namespace Go.Gw
open Go
theorem Qye : Qsi 60 = some true := by decide +kernel
theorem Qyd : Qfk = some true := QFf _ Qye
end Go.Gw

end
section
set_option linter.unusedSectionVars false
namespace Go.Gw
open Go

theorem Yt {x : Int} (h : -9223372036854775808 ≤ x ∧ x ≤ 9223372036854775807) : w64 x = x := Go.IntWalk.i64_in x h

def Runs {α : Type} (e : Option α) (Q : α → Prop) : Prop := ∃ a, e = some a ∧ Q a

section
variable {α β σ μ : Type} {Q : α → Prop} {e e' : Option α}
theorem Runs.some {a : α} (h : Q a) : Runs (some a) Q := ⟨a, rfl, h⟩
theorem Runs.bind {e : Option β} {f : β → Option α} (h : Runs e fun b => Runs (f b) Q) : Runs (e.bind f) Q := by
  obtain ⟨b, rfl, a, ha, hq⟩ := h; exact ⟨a, ha, hq⟩
theorem Runs.mono {Q' : α → Prop} (h : Runs e Q) (hm : ∀ a, Q a → Q' a) : Runs e Q' := by obtain ⟨a, ha, hq⟩ := h; exact ⟨a, ha, hm _ hq⟩
theorem Runs.eq {a : α} (h : Runs e (· = a)) : e = .some a := by obtain ⟨b, hb, rfl⟩ := h; exact hb
theorem Runs.call {e : Option β} {f : β → Option α} {b : β} (h : e = .some b) (hq : Runs (f b) Q) : Runs (e.bind f) Q := by subst h; exact hq
theorem Runs.bif {b : Bool} (ht : b = true → Runs e Q) (hf : b = false → Runs e' Q) : Runs (bif b then e else e') Q := by
  cases b
  · exact hf rfl
  · exact ht rfl
theorem Runs.jl {b : α} {f : μ → Option α} (h : Q b) : Runs (jn0 (.inl b) f) Q := ⟨b, rfl, h⟩
theorem Runs.j {o : α ⊕ μ} {f : μ → Option α} (hl : ∀ b, o = .inl b → Q b) (hr : ∀ m, o = .inr m → Runs (f m) Q) : Runs (jn0 o f) Q := by
  cases o with
  | inl b => exact Runs.jl (hl b rfl)
  | inr m => exact hr m rfl

def Rnd (I : σ → Prop) (m : σ → Nat) (Q : β → Prop) (s : σ) : σ ⊕ β → Prop
  | .inl s' => I s' ∧ m s' < m s
  | .inr o => Q o
theorem Runs.loop {step : σ → Option (σ ⊕ β)} {s : σ} {Q : β → Prop} (I : σ → Prop) (m : σ → Nat) (h0 : I s) (h : ∀ s, I s → Runs (step s) (Rnd I m Q s)) : Runs (Gw.loop step s) Q := by
  generalize hk : m s = k
  induction k using Nat.strongRecOn generalizing s with
  | _ k ih =>
    obtain ⟨x, hx, hq⟩ := h s h0
    cases x with
    | inl s' =>
      rw [Qlc hx]
      exact ih (m s') (by have := hq.2; omega) hq.1 rfl
    | inr o => rw [Qfm hx]; exact ⟨o, rfl, hq⟩
theorem Jh {step : σ → Option (σ ⊕ β)} {o : β} (S : Nat → σ) (n : Nat) (h : ∀ k, k < n → step (S k) = .some (.inl (S (k + 1)))) (he : step (S n) = .some (.inr o)) : Gw.loop step (S 0) = .some o := by
  have key : ∀ j k, j + k = n → Gw.loop step (S k) = .some o := by
    intro j
    induction j with
    | zero => intro k hk; obtain rfl : k = n := by omega
              exact Qfm he
    | succ j ih => intro k hk; rw [Qlc (h k (by omega))]; exact ih (k + 1) (by omega)
  exact key n 0 (by omega)

theorem Runs.idx {xs : List β} {i : Int} {f : β → Option α} (h0 : 0 ≤ i) (h1 : i < xs.length) (h : ∀ x, xs[i.toNat]? = .some x → Runs (f x) Q) : Runs ((Gw.idx xs i).bind f) Q := by
  have hl : i.toNat < xs.length := by omega
  have e : Gw.idx xs i = .some xs[i.toNat] := by unfold Gw.idx; rw [if_pos h0, List.getElem?_eq_getElem hl]
  exact Runs.call e (h _ (List.getElem?_eq_getElem hl))
theorem XR {xs : List β} {k : Nat} (h : k < xs.length) : Gw.idx xs (k : Int) = .some xs[k] := by
  unfold Gw.idx; rw [if_pos (by omega), Int.toNat_natCast, List.getElem?_eq_getElem h]
theorem XR? {xs : List β} {k : Nat} : Gw.idx xs (k : Int) = xs[k]? := by
  unfold Gw.idx; rw [if_pos (by omega), Int.toNat_natCast]
theorem Jz {xs ys : List β} (h : xs.length + ys.length ≤ 1073741824) : app xs ys = .some (xs ++ ys) := by unfold app; rw [if_pos h]
end
end Go.Gw

end
section
set_option linter.unusedSectionVars false
namespace Go.Gw
section
variable {α β γ σ ρ : Type}
def XN (p : α → Bool) (res : Nat → α → ρ) : Nat → List α → ρ ⊕ Unit
  | _, [] => .inr ()
  | k, x :: xs => if p x then .inl (res k x) else XN p res (k + 1) xs
theorem Zz {step : Int → Option (Int ⊕ (ρ ⊕ Unit))} (xs : List α) (p : α → Bool) (res : Nat → α → ρ)
    (hs : ∀ k (hk : k < xs.length), step (k : Int) = (bif p xs[k] then some (.inr (.inl (res k xs[k]))) else some (.inl ((k + 1 : Nat) : Int))))
    (he : step (xs.length : Int) = some (.inr (.inr ()))) : loop step 0 = some (XN p res 0 xs) := by
  have key : ∀ j k, j + k = xs.length → loop step (k : Int) = some (XN p res k (xs.drop k)) := by
    intro j
    induction j with
    | zero =>
      intro k hk
      obtain rfl : k = xs.length := by omega
      rw [List.drop_length]
      exact Qfm he
    | succ j ih =>
      intro k hk
      have hlt : k < xs.length := by omega
      rw [List.drop_eq_getElem_cons hlt]
      have := hs k hlt
      cases hp : p xs[k] with
      | true => rw [hp] at this; simp only [XN, hp, if_true]; exact Qfm this
      | false => rw [hp] at this; simp only [XN, hp]; rw [Qlc this]; exact ih (k + 1) (by omega)
  have := key xs.length 0 (by omega)
  simpa using this

def fld (f : Nat → γ → α → γ) : Nat → γ → List α → γ
  | _, a, [] => a
  | k, a, x :: xs => fld f (k + 1) (f k a x) xs
def rng (f : Nat → γ → γ) (a : γ) : Nat → γ
  | 0 => a
  | n + 1 => f n (rng f a n)
theorem X2 (k : Nat) (h : k < 4611686018427387904) : w64 ((k : Int) + 1) = ((k + 1 : Nat) : Int) := by rw [Yt (by omega)]; omega
theorem XZ {k n : Nat} (h : k < n) : decide ((k : Int) < (n : Int)) = true := by simp; omega
theorem X0 (n : Nat) : decide ((n : Int) < (n : Int)) = false := by simp
end
end Go.Gw

end
section
set_option maxRecDepth 4096
namespace Go.Gw
open Go

def YF : List Int → Int
  | [] => 0
  | x :: xs => if x = 0 then YF xs else x
theorem Jf (l : List Int) (hl : l.length < 1073741824) : YS l = some (YF l) := by
  unfold YS
  rw [Zz l (fun x => !decide (x = 0)) (fun _ x => x)]
  · have key : ∀ (l : List Int) k, (jn0 (XN (fun x => !decide (x = 0)) (fun _ x => x) k l) fun (_ : Unit) => some 0) = some (YF l) := by
      intro l
      induction l with
      | nil => intro k; rfl
      | cons x xs ih =>
        intro k
        by_cases h : x = 0
        · simp [XN, YF, h]; exact ih _
        · simp [XN, YF, h, jn0]
    simpa using key l 0
  · intro k hk
    unfold Qet
    rw [XZ hk, XR hk, X2 k (by omega)]; rfl
  · unfold Qet
    rw [X0]; rfl
theorem Z9 (b : Bool) (e : Int) : X3 b e = some (bif b then 0 else e) := by cases b <;> rfl
theorem JI (n lo hi : Int) : Ze n lo hi = some (decide (lo ≤ n) && decide (n ≤ hi)) := rfl
theorem JO (n lo hi : Int) : Zu n lo hi = some (decide (lo ≤ n) && decide (n ≤ hi)) := rfl
theorem QLu (n m : Int) (h : 0 ≤ m) (h2 : m ≤ 9223372036854775807) : Qav n m = some (decide (-m ≤ n) && decide (n ≤ m)) := by
  unfold Qav
  rw [Yt (by omega), JI, Int.zero_sub]; rfl
theorem Qhd {α : Type} (p : α → Bool) : ∀ (l : List α) (k : Nat), (jn0 (β := Int) (XN p (fun k _ => (k : Int)) k l) fun (_ : Unit) => some (-1)) = some (match XN p (fun k _ => (k : Int)) k l with | .inl i => i | .inr _ => -1)
  | l, k => by cases XN p (fun k _ => (k : Int)) k l <;> rfl
theorem Qml {α : Type} (p : α → Bool) : ∀ (l : List α) (k : Nat), decide (0 ≤ (match XN p (fun k _ => (k : Int)) k l with | .inl i => i | .inr _ => (-1 : Int))) = l.any p
  | [], k => by simp [XN]
  | x :: xs, k => by
    by_cases h : p x = true
    · simp [XN, h]
    · simp only [XN, h, List.any_cons]
      have := Qml p xs (k + 1)
      simpa [h] using this
theorem JW {α ρ : Type} {p : α → Bool} {res : Nat → α → ρ} : ∀ (l : List α) (k : Nat), (XN p res k l = .inr () ∧ l.any p = false) ∨ ∃ j x, XN p res k l = .inl (res j x) ∧ p x = true ∧ l.any p = true
  | [], k => .inl ⟨rfl, rfl⟩
  | x :: xs, k => by
    by_cases h : p x = true
    · exact .inr ⟨k, x, by simp [XN, h], h, by simp [h]⟩
    · rcases JW xs (k + 1) (p := p) (res := res) with ⟨h1, h2⟩ | ⟨j, y, h1, h2, h3⟩
      · exact .inl ⟨by simp [XN, h, h1], by simp [h, h2]⟩
      · exact .inr ⟨j, y, by simp [XN, h, h1], h2, by simp [h3]⟩
/-! ### Ladders -/
def QFb (l : FeedLadder) : Bool := (l.Ohms.any fun n => !(decide (1 ≤ n) && decide (n ≤ 500))) || (l.Loads.any fun n => !(decide (-20000 ≤ n) && decide (n ≤ 20000)))
def QOp (l : FeedLadder) : Int := if ¬ (0 < l.Loads.length ∧ l.Ohms.length = l.Loads.length + 1) then 10 else if 8 < l.Loads.length then 8 else if QFb l then 2 else 0
end Go.Gw

end
section
set_option maxRecDepth 4096
namespace Go.Gw
open Go
def XS (f : Nat → Int) (n : Nat) : Option Nat := (List.range n).find? fun i => decide (f i ≠ 0)
theorem Qaw (f : Nat → Int) (n : Nat) : (XS f n = none ∧ ∀ j, j < n → f j = 0) ∨ ∃ i, XS f n = some i ∧ i < n ∧ f i ≠ 0 ∧ ∀ j, j < i → f j = 0 := by
  cases h : XS f n with
  | none =>
    refine .inl ⟨rfl, fun j hj => ?_⟩
    have := List.find?_eq_none.1 h j (List.mem_range.2 hj)
    simpa using this
  | some i =>
    right
    obtain ⟨h1, h2, h3⟩ := List.find?_range_eq_some.1 h
    exact ⟨i, rfl, List.mem_range.1 h2, by simpa using h1, fun j hj => by have := h3 j hj; simpa using this⟩
theorem Jg {σ ρ μ : Type} {step : σ → Option (σ ⊕ (ρ ⊕ μ))} (S : Nat → σ) (n : Nat) (f : Nat → Int) (res : Nat → Int → ρ) (o : μ)
    (hs : ∀ k, k < n → (∀ j, j < k → f j = 0) → step (S k) = if f k = 0 then some (.inl (S (k + 1))) else some (.inr (.inl (res k (f k))))) (he : (∀ j, j < n → f j = 0) → step (S n) = some (.inr (.inr o))) :
    loop step (S 0) = some (match XS f n with | some i => .inl (res i (f i)) | none => .inr o) := by
  rcases Qaw f n with ⟨h1, h2⟩ | ⟨i, h1, h2, h3, h4⟩
  · rw [h1]
    exact Jh S n (fun k hk => by rw [hs k hk fun j hj => h2 j (by omega), if_pos (h2 k hk)]) (he h2)
  · rw [h1]
    exact Jh S i (fun k hk => by rw [hs k (by omega) fun j hj => h4 j (by omega), if_pos (h4 k hk)]) (by rw [hs i h2 h4, if_neg h3])
/-! ### Names -/
def Qbt (q : Int × Nat) : Bool := (!(((decide (97 ≤ q.1)) && (decide (q.1 ≤ 122))) || ((decide (65 ≤ q.1)) && (decide (q.1 ≤ 90))))) && ((decide ((q.2 : Int) = 0)) || ((!decide (q.1 = 45)) && ((decide (q.1 < 48)) || (decide (57 < q.1)))))
def bi (s : ByteArray) : List Int := bl s
theorem Qea (s : ByteArray) : (bi s).length = s.size := JN s
theorem Qrz {s : ByteArray} {k : Nat} (h : k < (bi s).length) : idx (α := Int) (bl s) (k : Int) = some (bi s)[k] := XR (xs := bi s) h
def JV (s : ByteArray) : Bool := decide (1 ≤ s.size) && (decide (s.size ≤ 12) && !((bi s).zipIdx.any Qbt))
theorem Qvb (s : ByteArray) : s = ByteArray.mk #[] ↔ s.size = 0 := by
  constructor
  · intro h; subst h; rfl
  · intro h
    cases s with
    | mk d =>
      congr 1
      exact Array.eq_empty_of_size_eq_zero h
theorem Qng (s : ByteArray) : Qbu s = some (JV s) := by
  unfold Qbu JV
  have hlen : (bi s).zipIdx.length = s.size := by rw [List.length_zipIdx, Qea]
  by_cases h : 1 ≤ s.size ∧ s.size ≤ 12
  · have : (decide ((s.size : Int) < 1) || decide (12 < (s.size : Int))) = false := by
      rw [decide_eq_false (by omega), decide_eq_false (by omega)]; rfl
    rw [this, cond_false, Zz (bi s).zipIdx Qbt (fun _ _ => false), QI]
    · rcases JW (p := Qbt) (res := fun _ _ => false) (bi s).zipIdx 0 with ⟨k1, k2⟩ | ⟨j, x, k1, k2, k3⟩
      · rw [k1, k2]; simp [h, jn0]
      · rw [k1, k3]; simp [jn0]
    · intro k hk
      rw [hlen] at hk
      unfold Qim
      rw [XZ hk, cond_true, Qrz (show k < (bi s).length by rw [Qea]; exact hk), QI, X2 k (by omega)]
      simp only [List.getElem_zipIdx, Nat.zero_add]
      rfl
    · rw [hlen]
      unfold Qim
      rw [X0]; rfl
  · have : (decide ((s.size : Int) < 1) || decide (12 < (s.size : Int))) = true := by
      by_cases h1 : s.size < 1
      · rw [decide_eq_true (by omega)]; rfl
      · rw [decide_eq_true (p := 12 < (s.size : Int)) (by omega)]; simp
    rw [this, cond_true]
    congr 1
    by_cases h1 : 1 ≤ s.size
    · rw [decide_eq_false (p := s.size ≤ 12) (by omega)]; simp
    · rw [decide_eq_false h1]; rfl
theorem QAb (s : ByteArray) (hs : s.size ≤ 1000) : Qcf s = some (JV s) := by
  unfold Qcf JV
  have hlen : (bi s).zipIdx.length = s.size := by rw [List.length_zipIdx, Qea]
  have ht : tob s = some (bl s) := by unfold tob; rw [if_pos (by omega)]
  rw [ht, QI, Zz (bi s).zipIdx Qbt (fun _ _ => false), QI]
  · rcases JW (p := Qbt) (res := fun _ _ => false) (bi s).zipIdx 0 with ⟨k1, k2⟩ | ⟨j, x, k1, k2, k3⟩
    · rw [k1, k2]
      simp only [jn0, Bool.not_false, Bool.and_true, Option.some.injEq]
      by_cases h0 : s.size = 0
      · rw [decide_eq_true ((Qvb s).2 h0), decide_eq_false (show ¬ 1 ≤ s.size by omega)]; rfl
      · rw [decide_eq_false (fun e => h0 ((Qvb s).1 e)), decide_eq_true (show 1 ≤ s.size by omega)]
        simp only [Bool.not_false, Bool.true_and]
        by_cases h1 : s.size ≤ 12
        · rw [decide_eq_true h1, decide_eq_true (by omega)]
        · rw [decide_eq_false h1, decide_eq_false (by omega)]
    · rw [k1, k3]; simp [jn0]
  · intro k hk
    rw [hlen] at hk
    have hk2 : k < (bl s).length := by rw [JN]; exact hk
    unfold Qev
    rw [XZ hk2, cond_true, Qrz (show k < (bi s).length by rw [Qea]; exact hk), QI, X2 k (by omega)]
    simp only [List.getElem_zipIdx, Nat.zero_add]
    rfl
  · rw [hlen, show (s.size : Int) = ((bl s).length : Int) by rw [JN]]
    unfold Qev
    rw [X0]; rfl
theorem Qzc (l : List ByteArray) (v : ByteArray) (hl : l.length < 1000000) : Qdj l v = some (l.any fun x => decide (v = x)) := by
  unfold Qdj Qhc
  rw [Zz l (fun x => decide (v = x)) (fun k _ => (k : Int)), QI, Qhd, QI, Qml]
  · intro k hk
    unfold Qhb
    rw [XZ hk, XR hk, X2 k (by omega)]; rfl
  · unfold Qhb
    rw [X0]; rfl
def Ji (s : ByteArray) (others : List ByteArray) : Int := if JV s = false then 4 else if (others.any fun x => decide (s = x)) = true then 5 else 0
theorem Qsn (s : ByteArray) (others : List ByteArray) (hs : s.size ≤ 1000) (hl : others.length < 1000000) : Qaq s others = some (Ji s others) := by
  unfold Qaq Ji
  rw [QAb s hs, QI, Z9, QI, Qzc _ _ hl, QI, Z9, QI, Jf _ (by simp), QI]
  cases JV s <;> cases (others.any fun x => decide (s = x)) <;> simp [YF]
end Go.Gw

end
section
set_option maxRecDepth 4096
namespace Go.Gw
open Go
theorem Qeb {α : Type} {c : Bool} {a b : α} : (bif c then some a else some b) = some (bif c then a else b) := by cases c <;> rfl
def Quz (l r il ir eq sh lo s0 s1 : Bool) : Int := bif (!(l || il)) || !(r || ir) then 6 else bif l && r then 23 else bif eq then 26 else bif !(sh && lo) then 2 else bif (l && !s0) || (r && !s1) then 3 else 0
def ZE (s : FeedSection) (n : Nat) : Int := Quz (decide (s.Left = -1)) (decide (s.Right = -1)) (decide (0 ≤ s.Left) && decide (s.Left ≤ (n : Int) - 1)) (decide (0 ≤ s.Right) && decide (s.Right ≤ (n : Int) - 1)) (decide (s.Left = s.Right))
  (decide (0 ≤ s.Share) && decide (s.Share ≤ 1000)) (decide (0 ≤ s.Loss) && decide (s.Loss ≤ 500)) (decide (s.Share = 0)) (decide (s.Share = 1000))
theorem QAf (s : FeedSection) (n : Nat) (hn : n < 1000) : Qco s (n : Int) = some (ZE s n) := by
  unfold Qco Qcn ZE
  rw [Yt (by omega)]
  simp only [Z9, JI, QI, Qeb]
  rw [Jf _ (by simp), QI]
  congr 1
  generalize decide (s.Left = -1) = l
  generalize decide (s.Right = -1) = r
  generalize (decide (0 ≤ s.Left) && decide (s.Left ≤ (n : Int) - 1)) = il
  generalize (decide (0 ≤ s.Right) && decide (s.Right ≤ (n : Int) - 1)) = ir
  generalize decide (s.Left = s.Right) = eq
  generalize (decide (0 ≤ s.Share) && decide (s.Share ≤ 1000)) = sh
  generalize (decide (0 ≤ s.Loss) && decide (s.Loss ≤ 500)) = lo
  generalize decide (s.Share = 0) = s0
  generalize decide (s.Share = 1000) = s1
  revert l r il ir eq sh lo s0 s1
  decide +kernel
theorem QIy (m : FeedNet) (s : FeedSection) (hn : m.Stations.length < 1000) : Qgn m s = some (ZE s m.Stations.length) := by
  unfold Qgn Qgl ZE
  rw [Yt (by omega)]
  simp only [JO, QI, Qeb]
  congr 1
  generalize decide (s.Left = -1) = l
  generalize decide (s.Right = -1) = r
  generalize (decide (0 ≤ s.Left) && decide (s.Left ≤ (m.Stations.length : Int) - 1)) = il
  generalize (decide (0 ≤ s.Right) && decide (s.Right ≤ (m.Stations.length : Int) - 1)) = ir
  generalize decide (s.Left = s.Right) = eq
  generalize (decide (0 ≤ s.Share) && decide (s.Share ≤ 1000)) = sh
  generalize (decide (0 ≤ s.Loss) && decide (s.Loss ≤ 500)) = lo
  generalize decide (s.Share = 0) = s0
  generalize decide (s.Share = 1000) = s1
  revert l r il ir eq sh lo s0 s1
  decide +kernel
def ZF (s : FeedStep) (n : Nat) : Int := bif !(decide (0 ≤ s.Section) && decide (s.Section ≤ (n : Int) - 1)) then 6 else bif !(decide (-20000 ≤ s.Power) && decide (s.Power ≤ 20000)) then 2 else 0
def Qhe (l : List FeedStep) (n : Nat) : Int := match XS (fun i => (l[i]?.map (ZF · n)).getD 0) l.length with | some i => (l[i]?.map (ZF · n)).getD 0 | none => 0
def Qwx (e1 e2 : Bool) (o : Bool) (z : Bool) (m : Bool) (st : Int) : Int := bif !(e1 && e2) then 2 else bif !o then 9 else bif !z then 10 else bif !m then 8 else st
def Jt (t : FeedTrain) (n : Nat) : Int := Qwx (decide (0 ≤ t.Earliest) && decide (t.Earliest ≤ 1000)) (decide (0 ≤ t.Latest) && decide (t.Latest ≤ 1000)) (decide (t.Earliest ≤ t.Latest)) (decide (0 < (t.Steps.length : Int))) (decide ((t.Steps.length : Int) ≤ 12)) (Qhe t.Steps n)
theorem Qku (l : List FeedStep) (n k : Nat) (hk : k < l.length) : (l[k]?.map (ZF · n)).getD 0 = ZF l[k] n := by rw [List.getElem?_eq_getElem hk]; rfl
theorem QAi (t : FeedTrain) (n : Nat) (hn : n < 1000) (ht : t.Steps.length < 1000) : Qcq t (n : Int) = some (Jt t n) := by
  have key : loop (Qcp (n : Int) t) 0 = some (match XS (fun i => (t.Steps[i]?.map (ZF · n)).getD 0) t.Steps.length with | some i => .inl ((t.Steps[i]?.map (ZF · n)).getD 0) | none => .inr ()) :=
    Jg (fun k => (k : Int)) t.Steps.length _ (fun _ e => e) () (fun k hk _ => by
      rw [Qku _ _ _ hk]
      unfold Qcp ZF
      rw [XZ hk, cond_true, XR hk, QI, X2 k (by omega), Yt (by omega)]
      simp only [Z9, JI, QI]
      rw [QLu _ _ (by omega) (by omega)]
      simp only [Z9, QI]
      rw [Jf _ (by simp), QI]
      generalize (decide (0 ≤ t.Steps[k].Section) && decide (t.Steps[k].Section ≤ (n : Int) - 1)) = a
      generalize (decide (-20000 ≤ t.Steps[k].Power) && decide (t.Steps[k].Power ≤ 20000)) = b
      cases a <;> cases b <;> rfl) (fun _ => by
      unfold Qcp
      rw [X0]; rfl)
  unfold Qcq J7
  rw [key]
  unfold Jt Qhe
  simp only [Z9, JI, QI, Qeb]
  rw [Jf _ (by simp), QI]
  generalize (decide (0 ≤ t.Earliest) && decide (t.Earliest ≤ 1000)) = e1
  generalize (decide (0 ≤ t.Latest) && decide (t.Latest ≤ 1000)) = e2
  generalize decide (t.Earliest ≤ t.Latest) = o
  generalize decide (0 < (t.Steps.length : Int)) = z
  generalize decide ((t.Steps.length : Int) ≤ 12) = m
  cases XS (fun i => (t.Steps[i]?.map (ZF · n)).getD 0) t.Steps.length with
  | none => cases e1 <;> cases e2 <;> cases o <;> cases z <;> cases m <;> rfl
  | some i => cases e1 <;> cases e2 <;> cases o <;> cases z <;> cases m <;> rfl
theorem QJc (m : FeedNet) (t : FeedTrain) (hn : m.Sections.length < 1000) (ht : t.Steps.length < 1000) : Qgr m t = some (Jt t m.Sections.length) := by
  have key : loop (Qgq m t) 0 = some (match XS (fun i => (t.Steps[i]?.map (ZF · m.Sections.length)).getD 0) t.Steps.length with | some i => .inl ((t.Steps[i]?.map (ZF · m.Sections.length)).getD 0) | none => .inr ()) :=
    Jg (fun k => (k : Int)) t.Steps.length _ (fun _ e => e) () (fun k hk _ => by
      rw [Qku _ _ _ hk]
      unfold Qgq Qdd ZF
      rw [XZ hk, cond_true, XR hk, QI, X2 k (by omega), Yt (by omega)]
      simp only [JO, QI]
      generalize (decide (0 ≤ t.Steps[k].Section) && decide (t.Steps[k].Section ≤ (m.Sections.length : Int) - 1)) = a
      generalize (decide (-20000 ≤ t.Steps[k].Power) && decide (t.Steps[k].Power ≤ 20000)) = b
      cases a <;> cases b <;> rfl) (fun _ => by
      unfold Qgq
      rw [X0]; rfl)
  unfold Qgr
  rw [key]
  unfold Jt Qhe
  simp only [JO, QI, Qeb]
  rw [show decide (t.Latest < t.Earliest) = !decide (t.Earliest ≤ t.Latest) by rw [← decide_not]; congr 1; exact propext (by omega),
    show decide ((t.Steps.length : Int) = 0) = !decide (0 < (t.Steps.length : Int)) by rw [← decide_not]; congr 1; exact propext (by omega),
    show decide (12 < (t.Steps.length : Int)) = !decide ((t.Steps.length : Int) ≤ 12) by rw [← decide_not]; congr 1; exact propext (by omega)]
  generalize (decide (0 ≤ t.Earliest) && decide (t.Earliest ≤ 1000)) = e1
  generalize (decide (0 ≤ t.Latest) && decide (t.Latest ≤ 1000)) = e2
  generalize decide (t.Earliest ≤ t.Latest) = o
  generalize decide (0 < (t.Steps.length : Int)) = z
  generalize decide ((t.Steps.length : Int) ≤ 12) = q
  cases XS (fun i => (t.Steps[i]?.map (ZF · m.Sections.length)).getD 0) t.Steps.length with
  | none => cases e1 <;> cases e2 <;> cases o <;> cases z <;> cases q <;> rfl
  | some i => cases e1 <;> cases e2 <;> cases o <;> cases z <;> cases q <;> rfl
end Go.Gw

end
section
set_option maxRecDepth 4096
namespace Go.Gw
open Go
def stE (s : FeedStation) (others : List ByteArray) : Int := if Ji s.Name others ≠ 0 then Ji s.Name others else bif !(decide (0 ≤ s.Limit) && decide (s.Limit ≤ 100000)) then 2 else 0
def Zk (n : FeedNet) (i : Nat) : Int := (n.Stations[i]?.map fun s => stE s ((n.Stations.take i).map (·.Name))).getD 0
def Zj (n : FeedNet) (i : Nat) : Int := (n.Sections[i]?.map fun s => ZE s n.Stations.length).getD 0
def trE (t : FeedTrain) (others : List ByteArray) (n : Nat) : Int := if Ji t.Name others ≠ 0 then Ji t.Name others else Jt t n
def Zo (n : FeedNet) (i : Nat) : Int := (n.Trains[i]?.map fun t => trE t ((n.Trains.take i).map (·.Name)) n.Sections.length).getD 0
def Z1 (n : FeedNet) : FeedMark × Int :=
  if n.Stations.length = 0 ∨ n.Sections.length = 0 then (FeedMark.mk 0 0, 10) else if 6 < n.Stations.length ∨ 10 < n.Sections.length ∨ 6 < n.Trains.length then (FeedMark.mk 0 0, 8) else
  match XS (Zk n) n.Stations.length with
  | some i => (FeedMark.mk 1 i, Zk n i)
  | none => match XS (Zj n) n.Sections.length with
    | some i => (FeedMark.mk 2 i, Zj n i)
    | none => match XS (Zo n) n.Trains.length with
      | some i => (FeedMark.mk 3 i, Zo n i)
      | none => (FeedMark.mk 0 0, 0)
structure NetS (n : FeedNet) : Prop where
  st : n.Stations.length < 1000
  se : n.Sections.length < 1000
  tr : n.Trains.length < 1000
  sn : ∀ s ∈ n.Stations, s.Name.size ≤ 1000
  tn : ∀ t ∈ n.Trains, t.Name.size ≤ 1000 ∧ t.Steps.length < 1000
theorem ZP {α : Type} (l : List α) (f : α → Int) (k : Nat) (hk : k < l.length) : (l[k]?.map f).getD 0 = f l[k] := by rw [List.getElem?_eq_getElem hk]; rfl
theorem Qhf {α β : Type} (l : List α) (f : α → β) (k : Nat) (hk : k < l.length) : (l.take k).map f ++ [f l[k]] = (l.take (k + 1)).map f := by
  rw [List.take_add_one, List.getElem?_eq_getElem hk, List.map_append]; rfl
theorem Qks (a b : Int) : YF [a, b] = if a ≠ 0 then a else b := by
  by_cases h : a = 0
  · by_cases h2 : b = 0 <;> simp [YF, h, h2]
  · simp [YF, h]
section
variable {n : FeedNet} (h : NetS n)
include h
theorem QAh : loop (Qcb n) (([] : List ByteArray), 0) = some (match XS (Zk n) n.Stations.length with | some i => .inl (FeedMark.mk 1 i, Zk n i) | none => .inr ()) :=
  Jg (fun k => ((n.Stations.take k).map (·.Name), (k : Int))) n.Stations.length (Zk n) (fun i e => (FeedMark.mk 1 i, e)) () (fun k hk _ => by
    have hst := h.st
    have hs : Zk n k = stE n.Stations[k] ((n.Stations.take k).map (·.Name)) := ZP _ _ _ hk
    rw [hs]
    unfold Qcb stE
    simp only [XZ hk, cond_true, XR hk, QI]
    rw [Qsn _ _ (h.sn _ (List.getElem_mem hk)) (by simp; omega), QI]
    simp only [JI, Z9, QI]
    rw [Jf _ (by simp), QI, Qks]
    generalize (decide (0 ≤ n.Stations[k].Limit) && decide (n.Stations[k].Limit ≤ 100000)) = b
    by_cases h1 : Ji n.Stations[k].Name ((n.Stations.take k).map (·.Name)) = 0
    · simp only [h1, ne_eq, not_true_eq_false, if_false]
      cases b
      · rfl
      · simp only [cond_true, decide_true, Bool.not_true, cond_false, if_true]
        rw [Jz (by simp; omega), QI, Qhf n.Stations (·.Name) k hk, X2 k (by omega)]
    · simp only [ne_eq, h1, not_false_eq_true, if_true, decide_false, Bool.not_false, cond_true, if_false]) (fun _ => by
    unfold Qcb
    simp only [X0]; rfl)
theorem QAg : loop (Qcc n) 0 = some (match XS (Zj n) n.Sections.length with | some i => .inl (FeedMark.mk 2 i, Zj n i) | none => .inr ()) :=
  Jg (fun k => (k : Int)) n.Sections.length (Zj n) (fun i e => (FeedMark.mk 2 i, e)) () (fun k hk _ => by
    have hse := h.se
    have hs : Zj n k = ZE n.Sections[k] n.Stations.length := ZP _ _ _ hk
    rw [hs]
    unfold Qcc
    rw [XZ hk, cond_true, XR hk, QI, QAf _ _ h.st, QI, X2 k (by omega)]
    by_cases h1 : ZE n.Sections[k] n.Stations.length = 0
    · simp [h1]
    · simp [h1]) (fun _ => by
    unfold Qcc
    rw [X0]; rfl)
theorem QAk : loop (Qcd n) (([] : List ByteArray), 0) = some (match XS (Zo n) n.Trains.length with | some i => .inl (FeedMark.mk 3 i, Zo n i) | none => .inr ()) :=
  Jg (fun k => ((n.Trains.take k).map (·.Name), (k : Int))) n.Trains.length (Zo n) (fun i e => (FeedMark.mk 3 i, e)) () (fun k hk _ => by
    have hst := h.tr
    have hs : Zo n k = trE n.Trains[k] ((n.Trains.take k).map (·.Name)) n.Sections.length := ZP _ _ _ hk
    rw [hs]
    unfold Qcd trE
    simp only [XZ hk, cond_true, XR hk, QI]
    rw [Qsn _ _ (h.tn _ (List.getElem_mem hk)).1 (by simp; omega), QI, QAi _ _ h.se (h.tn _ (List.getElem_mem hk)).2, QI]
    rw [Jf _ (by simp), QI, Qks]
    by_cases h1 : Ji n.Trains[k].Name ((n.Trains.take k).map (·.Name)) = 0
    · simp only [h1, ne_eq, not_true_eq_false, if_false]
      by_cases h2 : Jt n.Trains[k] n.Sections.length = 0
      · simp only [h2, decide_true, Bool.not_true, cond_false, if_true]
        rw [Jz (by simp; omega), QI, Qhf n.Trains (·.Name) k hk, X2 k (by omega)]
      · simp [h2]
    · simp only [ne_eq, h1, not_false_eq_true, if_true, decide_false, Bool.not_false, cond_true, if_false]) (fun _ => by
    unfold Qcd
    simp only [X0]; rfl)
theorem Qzy : Qce n = some (Z1 n) := by
  unfold Qce Z1
  rw [QAh h, QAg h, QAk h]
  simp only [Z9, QI]
  rw [Jf _ (by simp), QI, Qks]
  by_cases h1 : n.Stations.length = 0 ∨ n.Sections.length = 0
  · rw [if_pos h1]
    have : (decide (0 < (n.Stations.length : Int)) && decide (0 < (n.Sections.length : Int))) = false := by
      rw [Bool.eq_false_iff]; intro e; simp at e; omega
    rw [this]; rfl
  · rw [if_neg h1]
    have : (decide (0 < (n.Stations.length : Int)) && decide (0 < (n.Sections.length : Int))) = true := by
      simp; omega
    rw [this]
    by_cases h2 : 6 < n.Stations.length ∨ 10 < n.Sections.length ∨ 6 < n.Trains.length
    · rw [if_pos h2]
      have : ((decide ((n.Stations.length : Int) ≤ 6) && decide ((n.Sections.length : Int) ≤ 10)) && decide ((n.Trains.length : Int) ≤ 6)) = false := by
        rw [Bool.eq_false_iff]; intro e; simp at e; omega
      rw [this]; rfl
    · rw [if_neg h2]
      have : ((decide ((n.Stations.length : Int) ≤ 6) && decide ((n.Sections.length : Int) ≤ 10)) && decide ((n.Trains.length : Int) ≤ 6)) = true := by
        simp; omega
      rw [this]
      cases XS (Zk n) n.Stations.length with
      | some i => rfl
      | none =>
        cases XS (Zj n) n.Sections.length with
        | some i => rfl
        | none =>
          cases XS (Zo n) n.Trains.length with
          | some i => rfl
          | none => rfl
end
end Go.Gw

end
section
set_option maxRecDepth 4096
namespace Go.Gw
open Go
theorem Qwg {α : Type} {p : α → Bool} : ∀ (l : List α) (k m : Nat) (hk : k < l.length), p l[k] = true → ∃ j : Nat, XN p (fun k _ => (k : Int)) m l = .inl ((m + j : Nat) : Int) ∧ (j < k ↔ (l.take k).any p = true)
  | x :: xs, 0, m, _, hp => ⟨0, by simp at hp; simp [XN, hp], by simp⟩
  | x :: xs, k + 1, m, hk, hp => by
    by_cases hx : p x = true
    · exact ⟨0, by simp [XN, hx], by simp [hx]⟩
    · obtain ⟨j, h1, h2⟩ := Qwg xs k (m + 1) (by simpa using hk) (by simpa using hp)
      refine ⟨j + 1, by simp only [XN, hx]; rw [← show m + 1 + j = m + (j + 1) by omega]; simpa using h1, ?_⟩
      simp only [List.take_succ_cons, List.any_cons, hx]
      rw [← (show ((l : Bool) → (false || l) = l) from fun l => by cases l <;> rfl) ((xs.take k).any p)] at h2
      constructor
      · intro h; simpa using h2.1 (by omega)
      · intro h; have := h2.2 (by simpa using h); omega
theorem Qnf {α : Type} (f : α → ByteArray) (l : List α) (s : ByteArray) : ((l.map f).any fun x => decide (s = x)) = l.any fun y => decide (f y = s) := by
  rw [List.any_map]
  congr 1
  funext y
  exact decide_eq_decide.2 eq_comm
def Yf (n : FeedNet) (s : ByteArray) : Int := match XN (fun t : FeedTrain => decide (t.Name = s)) (fun k _ => (k : Int)) 0 n.Trains with | .inl i => i | .inr _ => -1
theorem Qlr (n : FeedNet) (s : ByteArray) (h : n.Trains.length < 1000000) : Qbh n s = some (Yf n s) := by
  unfold Qbh Yf
  rw [Zz n.Trains (fun t => decide (t.Name = s)) (fun k _ => (k : Int)), QI, Qhd]
  all_goals first
    | (intro k hk; unfold Qlt; rw [XZ hk, cond_true, XR hk, QI, X2 k (by omega)])
    | (unfold Qlt; rw [X0]; rfl)
    | rfl
section
variable {n : FeedNet} (h : NetS n)
include h
theorem QJa : loop (Qgb n) 0 = some (match XS (Zk n) n.Stations.length with | some i => .inl (FeedMark.mk 1 i, Zk n i) | none => .inr ()) :=
  Jg (fun k => (k : Int)) n.Stations.length (Zk n) (fun i e => (FeedMark.mk 1 i, e)) () (fun k hk _ => by
    have hst := h.st
    have hs : Zk n k = stE n.Stations[k] ((n.Stations.take k).map (·.Name)) := ZP _ _ _ hk
    have hlen : (n.Stations.take k).length = k := by simp; omega
    have inner : loop (Qga n (k : Int)) 0 = some (XN (fun y : FeedStation => decide (y.Name = n.Stations[k].Name)) (fun _ _ => Sum.inr (α := Int) (Sum.inl (β := Unit) (FeedMark.mk 1 (k : Int), (5 : Int)))) 0 (n.Stations.take k)) :=
      Zz (n.Stations.take k) _ _ (fun j hj => by
        rw [hlen] at hj
        unfold Qga
        rw [XZ hj, cond_true, XR (show j < n.Stations.length by omega), QI, XR hk, QI, X2 j (by omega)]
        simp only [List.getElem_take]) (by
        rw [hlen]
        unfold Qga
        rw [X0]; rfl)
    rw [hs]
    unfold Qgb stE Ji
    rw [XZ hk, cond_true, XR hk, QI, Qng, QI, inner, Qnf]
    cases hn : JV n.Stations[k].Name
    · rfl
    · simp only [Bool.not_true, cond_false, QI]
      rcases JW (p := fun y : FeedStation => decide (y.Name = n.Stations[k].Name)) (res := fun _ _ => Sum.inr (α := Int) (Sum.inl (β := Unit) (FeedMark.mk 1 (k : Int), (5 : Int)))) (n.Stations.take k) 0 with ⟨k1, k2⟩ | ⟨j, x, k1, k2, k3⟩
      · rw [k1, k2]
        simp only [jn0, QI, JO, X2 k (show k < 4611686018427387904 by omega)]
        generalize (decide (0 ≤ n.Stations[k].Limit) && decide (n.Stations[k].Limit ≤ 100000)) = b
        cases b <;> rfl
      · rw [k1, k3]; rfl) (fun _ => by
    unfold Qgb
    rw [X0]; rfl)
theorem QIz : loop (Qgc n) 0 = some (match XS (Zj n) n.Sections.length with | some i => .inl (FeedMark.mk 2 i, Zj n i) | none => .inr ()) :=
  Jg (fun k => (k : Int)) n.Sections.length (Zj n) (fun i e => (FeedMark.mk 2 i, e)) () (fun k hk _ => by
    have hse := h.se
    have hs : Zj n k = ZE n.Sections[k] n.Stations.length := ZP _ _ _ hk
    rw [hs]
    unfold Qgc
    rw [XZ hk, cond_true, XR hk, QI, QIy _ _ h.st, QI, X2 k (by omega)]
    by_cases h1 : ZE n.Sections[k] n.Stations.length = 0
    · simp [h1]
    · simp [h1]) (fun _ => by
    unfold Qgc
    rw [X0]; rfl)
theorem QJd : loop (Qgd n) 0 = some (match XS (Zo n) n.Trains.length with | some i => .inl (FeedMark.mk 3 i, Zo n i) | none => .inr ()) :=
  Jg (fun k => (k : Int)) n.Trains.length (Zo n) (fun i e => (FeedMark.mk 3 i, e)) () (fun k hk _ => by
    have hst := h.tr
    have hs : Zo n k = trE n.Trains[k] ((n.Trains.take k).map (·.Name)) n.Sections.length := ZP _ _ _ hk
    obtain ⟨j, hj1, hj2⟩ := Qwg (p := fun t : FeedTrain => decide (t.Name = n.Trains[k].Name)) n.Trains k 0 hk (by simp)
    have ht : Yf n n.Trains[k].Name = (j : Int) := by unfold Yf; rw [hj1]; simp
    rw [hs]
    unfold Qgd trE Ji
    rw [XZ hk, cond_true, XR hk, QI, Qng, QI, Qnf]
    cases hn : JV n.Trains[k].Name
    · rfl
    · simp only [Bool.not_true, cond_false, QI]
      rw [Qlr _ _ (by omega), ht, QI, QJc _ _ h.se (h.tn _ (List.getElem_mem hk)).2, QI, X2 k (by omega)]
      cases ha : (n.Trains.take k).any (fun t => decide (t.Name = n.Trains[k].Name)) with
      | true =>
        rw [decide_eq_true (show (j : Int) < k by have := hj2.2 ha; omega)]; rfl
      | false =>
        rw [decide_eq_false (show ¬ (j : Int) < k by intro e; have := hj2.1 (by omega); rw [ha] at this; cases this)]
        by_cases h2 : Jt n.Trains[k] n.Sections.length = 0
        · simp [h2]
        · simp [h2]) (fun _ => by
    unfold Qgd
    rw [X0]; rfl)
theorem QIs : Qge n = some (Z1 n) := by
  unfold Qge Z1
  rw [QJa h, QIz h, QJd h]
  by_cases h1 : n.Stations.length = 0 ∨ n.Sections.length = 0
  · rw [if_pos h1]
    have : (decide ((n.Stations.length : Int) = 0) || decide ((n.Sections.length : Int) = 0)) = true := by
      simp only [Bool.or_eq_true, decide_eq_true_eq]; omega
    rw [this]; rfl
  · rw [if_neg h1]
    have : (decide ((n.Stations.length : Int) = 0) || decide ((n.Sections.length : Int) = 0)) = false := by
      rw [decide_eq_false (by omega), decide_eq_false (by omega)]; rfl
    rw [this, cond_false]
    by_cases h2 : 6 < n.Stations.length ∨ 10 < n.Sections.length ∨ 6 < n.Trains.length
    · rw [if_pos h2]
      have : ((decide (6 < (n.Stations.length : Int)) || decide (10 < (n.Sections.length : Int))) || decide (6 < (n.Trains.length : Int))) = true := by
        simp only [Bool.or_eq_true, decide_eq_true_eq]; omega
      rw [this]; rfl
    · rw [if_neg h2]
      have : ((decide (6 < (n.Stations.length : Int)) || decide (10 < (n.Sections.length : Int))) || decide (6 < (n.Trains.length : Int))) = false := by
        rw [decide_eq_false (by omega), decide_eq_false (by omega), decide_eq_false (by omega)]; rfl
      rw [this, cond_false]
      cases XS (Zk n) n.Stations.length with
      | some i => rfl
      | none =>
        cases XS (Zj n) n.Sections.length with
        | some i => rfl
        | none =>
          cases XS (Zo n) n.Trains.length with
          | some i => rfl
          | none => rfl
end
end Go.Gw

end
section
set_option maxRecDepth 4096
namespace Go.Gw
open Go
theorem Qze (l : List FeedDeparture) (h : l.length < 1000000) : Qcz l = some l := by
  unfold Qcz; rw [Jz (by simp; omega)]; rfl
theorem Qzf {n : FeedNet} (h : NetS n) : Qda n = some n := by
  have key : loop (Qgf n) (0, ([] : List FeedTrain)) = some n.Trains :=
    Jh (fun k => ((k : Int), n.Trains.take k)) n.Trains.length (fun k hk => by
      have hst := h.tr
      have hsteps := (h.tn _ (List.getElem_mem hk)).2
      unfold Qgf
      simp only [XZ hk, cond_true, XR hk, QI]
      rw [Jz (by simp; omega), QI, Jz (by simp; omega), QI, X2 k (by omega), List.nil_append]
      congr 3
      rw [List.take_add_one, List.getElem?_eq_getElem hk]; rfl) (by
      unfold Qgf
      simp only [X0, cond_false, List.take_length])
  unfold Qda
  have h1 := h.st
  have h2 := h.se
  rw [Jz (by simp; omega), Jz (by simp; omega), key]
  rfl
def Qcr (n : FeedNet) : Bool := !(decide (8 < n.Stations.length) || decide (12 < n.Sections.length) || decide (8 < n.Trains.length)) && !(n.Stations.any fun s => decide (20 < (s.Name.size : Int))) && !(n.Trains.any fun t => decide (20 < (t.Name.size : Int)) || decide (14 < (t.Steps.length : Int)))
theorem QEo (n : FeedNet) : Qfh n = some (Qcr n) := by
  unfold Qfh Qcr
  by_cases h : 8 < n.Stations.length ∨ 12 < n.Sections.length ∨ 8 < n.Trains.length
  · have e1 : ((decide (8 < (n.Stations.length : Int)) || decide (12 < (n.Sections.length : Int))) || decide (8 < (n.Trains.length : Int))) = true := by
      simp only [Bool.or_eq_true, decide_eq_true_eq]; omega
    have e2 : (decide (8 < n.Stations.length) || decide (12 < n.Sections.length) || decide (8 < n.Trains.length)) = true := by
      simp only [Bool.or_eq_true, decide_eq_true_eq]; omega
    rw [e1, e2]; rfl
  · have e1 : ((decide (8 < (n.Stations.length : Int)) || decide (12 < (n.Sections.length : Int))) || decide (8 < (n.Trains.length : Int))) = false := by
      rw [decide_eq_false (by omega), decide_eq_false (by omega), decide_eq_false (by omega)]; rfl
    have e2 : (decide (8 < n.Stations.length) || decide (12 < n.Sections.length) || decide (8 < n.Trains.length)) = false := by
      rw [decide_eq_false (by omega), decide_eq_false (by omega), decide_eq_false (by omega)]; rfl
    rw [e1, e2, cond_false, Zz n.Stations (fun s => decide (20 < (s.Name.size : Int))) (fun _ _ => false), QI, Zz n.Trains (fun t => decide (20 < (t.Name.size : Int)) || decide (14 < (t.Steps.length : Int))) (fun _ _ => false)]
    · rcases JW (p := fun s : FeedStation => decide (20 < (s.Name.size : Int))) (res := fun _ _ => false) n.Stations 0 with ⟨k1, k2⟩ | ⟨j, x, k1, k2, k3⟩
      · rw [k1, k2]
        rcases JW (p := fun t : FeedTrain => decide (20 < (t.Name.size : Int)) || decide (14 < (t.Steps.length : Int))) (res := fun _ _ => false) n.Trains 0 with ⟨k3, k4⟩ | ⟨j, x, k3, k4, k5⟩
        · rw [k3, k4]; rfl
        · rw [k3, k5]; rfl
      · rw [k1, k3]; rfl
    · intro k hk
      unfold Qky
      rw [XZ hk, cond_true, XR hk, QI, X2 k (by omega)]
      cases h1 : decide (20 < (n.Trains[k].Name.size : Int)) <;> simp
    · unfold Qky
      rw [X0]; rfl
    · intro k hk
      unfold Qkx
      rw [XZ hk, cond_true, XR hk, QI, X2 k (by omega)]
    · unfold Qkx
      rw [X0]; rfl
theorem QEn {n : FeedNet} (h : Qcr n = true) : NetS n := by
  unfold Qcr at h
  simp only [Bool.and_eq_true, Bool.not_eq_true', Bool.or_eq_false_iff, decide_eq_false_iff_not, List.any_eq_false] at h
  obtain ⟨⟨⟨⟨h1, h2⟩, h3⟩, h4⟩, h5⟩ := h
  refine ⟨by omega, by omega, by omega, fun s hs => ?_, fun t ht => ?_⟩
  · have := h4 s hs; simp at this; omega
  · have := h5 t ht; simp at this; omega
def Qdh (l : List FeedDeparture) : Bool := !(decide (8 < l.length)) && !(l.any fun d => decide (20 < (d.Train.size : Int)))
theorem QKk (l : List FeedDeparture) : Qfl l = some (Qdh l) := by
  unfold Qfl Qdh
  by_cases h : 8 < l.length
  · rw [decide_eq_true (show 8 < (l.length : Int) by omega), decide_eq_true h]; rfl
  · rw [decide_eq_false (show ¬ 8 < (l.length : Int) by omega), decide_eq_false h, cond_false, Zz l (fun d => decide (20 < (d.Train.size : Int))) (fun _ _ => false)]
    · rcases JW (p := fun d : FeedDeparture => decide (20 < (d.Train.size : Int))) (res := fun _ _ => false) l 0 with ⟨k1, k2⟩ | ⟨j, x, k1, k2, k3⟩
      · rw [k1, k2]; rfl
      · rw [k1, k3]; rfl
    · intro k hk
      unfold Qkz
      rw [XZ hk, cond_true, XR hk, QI, X2 k (by omega)]
    · unfold Qkz
      rw [X0]; rfl
theorem QKj {l : List FeedDeparture} (h : Qdh l = true) : l.length ≤ 8 := by
  unfold Qdh at h; simp at h; omega
end Go.Gw

end
section
set_option maxRecDepth 4096
namespace Go.Gw
open Go
def Ja (n : FeedNet) (d : FeedDeparture) (others : List FeedDeparture) : Int := if Yf n d.Train < 0 then 6 else if (others.any fun o => decide (o.Train = d.Train)) = true then 26 else bif !(decide (0 ≤ d.At) && decide (d.At ≤ 1000)) then 2 else 0
def YD (n : FeedNet) (l : List FeedDeparture) (i : Nat) : Int := (l[i]?.map fun d => Ja n d (l.take i)).getD 0
def XM (n : FeedNet) (d : FeedDeparture) : feed_run := feed_run.mk (n.Trains[(Yf n d.Train).toNat]?.getD default) d.At
theorem Qho {n : FeedNet} {s : ByteArray} (h : 0 ≤ Yf n s) : ∃ t, n.Trains[(Yf n s).toNat]? = some t ∧ t.Name = s ∧ (Yf n s).toNat < n.Trains.length := by
  have key : ∀ (l : List FeedTrain) (m : Nat), (XN (fun t : FeedTrain => decide (t.Name = s)) (fun k _ => (k : Int)) m l = .inr ()) ∨ ∃ (j : Nat) (t : FeedTrain), XN (fun t : FeedTrain => decide (t.Name = s)) (fun k _ => (k : Int)) m l = .inl ((m + j : Nat) : Int) ∧ l[j]? = some t ∧ t.Name = s := by
    intro l
    induction l with
    | nil => intro m; exact .inl rfl
    | cons x xs ih =>
      intro m
      by_cases hx : x.Name = s
      · exact .inr ⟨0, x, by simp [XN, hx], rfl, hx⟩
      · rcases ih (m + 1) with h1 | ⟨j, t, h1, h2, h3⟩
        · exact .inl (by simp [XN, hx, h1])
        · exact .inr ⟨j + 1, t, by simp only [XN, hx, decide_false]; rw [← show m + 1 + j = m + (j + 1) by omega]; simpa using h1, h2, h3⟩
  rcases key n.Trains 0 with h1 | ⟨j, t, h1, h2, h3⟩
  · unfold Yf at h; rw [h1] at h; simp at h
  · have e : Yf n s = (j : Int) := by unfold Yf; rw [h1]; simp
    rw [e]
    exact ⟨t, by simpa using h2, h3, by simpa using (List.getElem?_eq_some_iff.1 h2).1⟩
theorem QAj (n : FeedNet) (s : ByteArray) (h : n.Trains.length < 1000000) : Qck ⟨n⟩ s = some (Yf n s) := by
  unfold Qck Qgy Yf
  rw [Zz n.Trains (fun t => decide (t.Name = s)) (fun k _ => (k : Int)), QI, Qhd]
  · rfl
  · intro k hk
    unfold Qgx
    rw [XZ hk, cond_true, XR hk, QI, X2 k (by omega)]; rfl
  · unfold Qgx
    rw [X0]; rfl
theorem Qyt (l : List feed_run) (d : FeedDeparture) (hl : l.length < 1000000) : Qdi l d = some (l.any fun r => decide (r.FeedTrain.Name = d.Train)) := by
  unfold Qdi Qha
  rw [Zz l (fun r => decide (r.FeedTrain.Name = d.Train)) (fun k _ => (k : Int)), QI, Qhd, QI, Qml]
  · intro k hk
    unfold Qgz
    rw [XZ hk, cond_true, XR hk, QI, X2 k (by omega)]; rfl
  · unfold Qgz
    rw [X0]; rfl
theorem Qiy {n : FeedNet} {d : FeedDeparture} {o : List FeedDeparture} (h : Ja n d o = 0) : 0 ≤ Yf n d.Train := by
  unfold Ja at h
  split at h
  · cases h
  · omega
theorem QKb {n : FeedNet} (s : ByteArray) (l : List FeedDeparture) (h : ∀ d ∈ l, 0 ≤ Yf n d.Train) : ((l.map (XM n)).any fun r => decide (r.FeedTrain.Name = s)) = l.any fun d => decide (d.Train = s) := by
  rw [List.any_map]
  induction l with
  | nil => rfl
  | cons d l ih =>
    simp only [List.any_cons]
    rw [ih fun x hx => h x (List.mem_cons_of_mem _ hx)]
    congr 1
    obtain ⟨t, h1, h2, _⟩ := Qho (h d (List.mem_cons_self ..))
    simp [XM, h1, h2]
theorem QEr (a b c : Int) : YF [a, b, c] = if a ≠ 0 then a else if b ≠ 0 then b else c := by
  by_cases h : a = 0 <;> by_cases h2 : b = 0 <;> by_cases h3 : c = 0 <;> simp [YF, h, h2, h3]
theorem QAd (n : FeedNet) (l : List FeedDeparture) (hn : n.Trains.length < 1000) : Qcj ⟨n⟩ l = some (if 6 < l.length then ([], 0, 8) else match XS (YD n l) l.length with | some i => ([], (i : Int), YD n l i) | none => (l.map (XM n), 0, 0)) := by
  unfold Qcj
  by_cases h6 : 6 < l.length
  · rw [decide_eq_true (show 6 < (l.length : Int) by omega), if_pos h6]; rfl
  · rw [decide_eq_false (show ¬ 6 < (l.length : Int) by omega), if_neg h6, cond_false]
    have key : loop (Qci l ⟨n⟩) (([] : List feed_run), 0) = some (match XS (YD n l) l.length with | some i => .inl ([], (i : Int), YD n l i) | none => .inr (l.map (XM n))) :=
      Jg (fun k => ((l.take k).map (XM n), (k : Int))) l.length (YD n l) (fun i e => (([] : List feed_run), (i : Int), e)) (l.map (XM n)) (fun k hk hpre => by
        have hs : YD n l k = Ja n l[k] (l.take k) := ZP _ _ _ hk
        have hall : ∀ d ∈ l.take k, 0 ≤ Yf n d.Train := fun d hd => by
          obtain ⟨j, hj, rfl⟩ := List.mem_iff_getElem.1 hd
          have hjk : j < k := by rw [List.length_take] at hj; omega
          have := hpre j hjk
          rw [show YD n l j = Ja n l[j] (l.take j) from ZP _ _ _ (by omega)] at this
          rw [List.getElem_take]
          exact Qiy this
        rw [hs]
        unfold Qci
        simp only [XZ hk, cond_true, XR hk, QI]
        rw [QAj n _ (by omega), QI, Qyt _ _ (by simp; omega), QI, QKb _ _ hall]
        unfold J7
        simp only [Z9, JI, QI]
        rw [Jf _ (by simp), QI, QEr]
        unfold Ja
        generalize (decide (0 ≤ l[k].At) && decide (l[k].At ≤ 1000)) = b
        generalize ((l.take k).any fun d => decide (d.Train = l[k].Train)) = tw
        by_cases ht : Yf n l[k].Train < 0
        · rw [decide_eq_false (show ¬ 0 ≤ Yf n l[k].Train by omega)]
          simp [ht]
        · rw [decide_eq_true (show 0 ≤ Yf n l[k].Train by omega), if_neg ht]
          cases tw
          · cases b
            · rfl
            · simp only [cond_true, Bool.not_false, Bool.not_true, cond_false, ne_eq, not_true_eq_false, if_false, decide_true]
              obtain ⟨t, h1, h2, h3⟩ := Qho (show 0 ≤ Yf n l[k].Train by omega)
              have hidx : idx n.Trains (Yf n l[k].Train) = some t := by unfold idx; rw [if_pos (by omega)]; exact h1
              rw [hidx, QI, Jz (by simp; omega), QI, X2 k (by omega)]
              have : feed_run.mk t l[k].At = XM n l[k] := by unfold XM; rw [h1]; rfl
              rw [this, Qhf l (XM n) k hk]
              rfl
          · rfl) (fun _ => by
        unfold Qci
        simp only [X0, cond_false, List.take_length])
    rw [key, QI]
    cases XS (YD n l) l.length <;> rfl
theorem QIr (n : FeedNet) (l : List FeedDeparture) (hn : n.Trains.length < 1000) : Qfz n l = some (if 6 < l.length then (0, 8) else match XS (YD n l) l.length with | some i => ((i : Int), YD n l i) | none => (0, 0)) := by
  unfold Qfz
  by_cases h6 : 6 < l.length
  · rw [decide_eq_true (show 6 < (l.length : Int) by omega), if_pos h6]; rfl
  · rw [decide_eq_false (show ¬ 6 < (l.length : Int) by omega), if_neg h6, cond_false]
    have key : loop (Qfy l n) 0 = some (match XS (YD n l) l.length with | some i => .inl ((i : Int), YD n l i) | none => .inr ()) :=
      Jg (fun k => (k : Int)) l.length (YD n l) (fun i e => ((i : Int), e)) () (fun k hk _ => by
        have hs : YD n l k = Ja n l[k] (l.take k) := ZP _ _ _ hk
        have hlen : (l.take k).length = k := by simp; omega
        have inner : loop (Qfx l (k : Int)) 0 = some (XN (fun y : FeedDeparture => decide (y.Train = l[k].Train)) (fun _ _ => Sum.inr (α := Int) (Sum.inl (β := Unit) ((k : Int), (26 : Int)))) 0 (l.take k)) :=
          Zz (l.take k) _ _ (fun j hj => by
            rw [hlen] at hj
            unfold Qfx
            rw [XZ hj, cond_true, XR (show j < l.length by omega), QI, XR hk, QI, X2 j (by omega)]
            simp only [List.getElem_take]) (by
            rw [hlen]
            unfold Qfx
            rw [X0]; rfl)
        rw [hs]
        unfold Qfy Ja
        rw [XZ hk, cond_true, XR hk, QI, Qlr _ _ (by omega), QI, inner]
        by_cases ht : Yf n l[k].Train < 0
        · rw [decide_eq_true ht, if_pos ht]; rfl
        · rw [decide_eq_false ht, if_neg ht, cond_false, QI]
          rcases JW (p := fun y : FeedDeparture => decide (y.Train = l[k].Train)) (res := fun _ _ => Sum.inr (α := Int) (Sum.inl (β := Unit) ((k : Int), (26 : Int)))) (l.take k) 0 with ⟨k1, k2⟩ | ⟨j, x, k1, k2, k3⟩
          · rw [k1, k2]
            simp only [jn0, QI, JO, X2 k (show k < 4611686018427387904 by omega)]
            generalize (decide (0 ≤ l[k].At) && decide (l[k].At ≤ 1000)) = b
            cases b <;> rfl
          · rw [k1, k3]; rfl) (fun _ => by
        unfold Qfy
        rw [X0]; rfl)
    rw [key, QI]
    cases XS (YD n l) l.length <;> rfl
end Go.Gw

end
section
set_option maxRecDepth 4096
namespace Go.Gw
open Go
/-! ### The greatest common divisor -/
noncomputable def QFj (n A : Int) : Frac := (Qyk n A).getD default
/-! ### Sums -/
theorem Qmm {c : Int} (hc : 0 ≤ c) : ∀ {l : List Int}, (∀ x ∈ l, -c ≤ x ∧ x ≤ c) → -(c * l.length) ≤ l.sum ∧ l.sum ≤ c * l.length
  | [], _ => by simp
  | x :: l, h => by
    have h1 := h x (List.mem_cons_self ..)
    have h2 := Qmm hc (l := l) fun y hy => h y (List.mem_cons_of_mem _ hy)
    simp only [List.sum_cons, List.length_cons]
    have : c * ((l.length + 1 : Nat) : Int) = c * l.length + c := by rw [Int.natCast_add, Int.mul_add]; simp
    rw [this]
    omega
theorem Qwi {l : List Int} {k : Nat} (hk : k < l.length) : (l.take (k + 1)).sum = (l.take k).sum + l[k] := by
  rw [List.take_add_one, List.getElem?_eq_getElem hk, List.sum_append]
  simp
theorem QLy {l : List Int} {c : Int} (hc : 0 ≤ c) (hc2 : c ≤ 1000000000) (h : ∀ x ∈ l, -c ≤ x ∧ x ≤ c) (hl : l.length ≤ 1000) : Qgp l = some l.sum := by
  have key : loop (Qgo l) (0, 0) = some l.sum := Jh (o := l.sum) (fun k => ((l.take k).sum, (k : Int))) l.length ?_ ?_
  · unfold Qgp
    rw [key]; rfl
  · intro k hk
    unfold Qgo
    have hb := Qmm hc (l := l.take (k + 1)) fun x hx => h x (List.mem_of_mem_take hx)
    have hlen : (l.take (k + 1)).length = k + 1 := by simp; omega
    rw [hlen, Qwi hk] at hb
    have hm : c * ((k + 1 : Nat) : Int) ≤ 1000000000 * 1000 := Int.mul_le_mul hc2 (by omega) (by omega) (by omega)
    simp only [XZ hk, cond_true, XR hk, QI]
    rw [Yt (by omega), X2 k (by omega), Qwi hk]
  · unfold Qgo
    simp only [X0, cond_false, List.take_length]
end Go.Gw

end
section
set_option maxRecDepth 4096
namespace Go.Gw
open Go
def ZN (st : List FeedStep) (k : Int) (s : Nat) : Int := if 0 ≤ k ∧ k ≤ (st.length : Int) - 1 then (match st[k.toNat]? with | some x => if x.Section = (s : Int) then x.Power else 0 | none => 0) else 0
def XF (l : List feed_run) (t : Int) (s : Nat) : Int := (l.map fun r => ZN r.FeedTrain.Steps (t - r.at_) s).sum
def ZU (m : Nat) (r : feed_run) : Prop := (∀ x ∈ r.FeedTrain.Steps, 0 ≤ x.Section ∧ x.Section ≤ (m : Int) - 1 ∧ -20000 ≤ x.Power ∧ x.Power ≤ 20000) ∧ r.FeedTrain.Steps.length ≤ 12 ∧ 0 ≤ r.at_ ∧ r.at_ ≤ 1000
theorem Qzh {m : Nat} {r : feed_run} (h : ZU m r) (k : Int) (s : Nat) : -20000 ≤ ZN r.FeedTrain.Steps k s ∧ ZN r.FeedTrain.Steps k s ≤ 20000 := by
  unfold ZN
  split
  · split
    · rename_i x hx
      have := h.1 x (List.mem_of_getElem? hx)
      split <;> omega
    · omega
  · omega
theorem Qlp {m : Nat} {l : List feed_run} (h : ∀ r ∈ l, ZU m r) (t : Int) (s : Nat) : -(20000 * (l.length : Int)) ≤ XF l t s ∧ XF l t s ≤ 20000 * (l.length : Int) := by
  have := Qmm (c := 20000) (by omega) (l := l.map fun r => ZN r.FeedTrain.Steps (t - r.at_) s) fun x hx => by
    obtain ⟨r, hr, rfl⟩ := List.mem_map.1 hx
    exact Qzh (h r hr) _ _
  simpa [XF] using this
theorem Qlq {l : List feed_run} {t : Int} {s k : Nat} (hk : k < l.length) : XF (l.take (k + 1)) t s = XF (l.take k) t s + ZN l[k].FeedTrain.Steps (t - l[k].at_) s := by
  unfold XF
  rw [List.take_add_one, List.getElem?_eq_getElem hk, List.map_append, List.sum_append]
  simp
theorem QKi {m : Nat} {f g : Nat → Int} {s : Nat} (hs : s < m) (hv : ∀ i, i ≠ s → g i = f i) : ((List.range m).map f).set s (g s) = (List.range m).map g := by
  apply List.ext_getElem?
  intro i
  by_cases hi : i = s
  · subst hi
    rw [List.getElem?_set_self (by simpa using hs)]
    simp [hs]
  · rw [List.getElem?_set_ne (Ne.symm hi)]
    by_cases him : i < m
    · simp [him, hv i hi]
    · simp [him]
theorem Qle (m : Nat) (h : m < 1000) : mk (m : Int) (0 : Int) = some ((List.range m).map fun _ => (0 : Int)) := by
  unfold mk
  rw [if_pos (by omega)]
  congr 1
  apply List.ext_getElem?
  intro i
  by_cases hi : i < m <;> simp [hi]
theorem QLx {m : Nat} {r : feed_run} (h : ZU m r) {t : Int} (ht : 0 ≤ t) (ht2 : t ≤ 100000) :
    ∃ o, Qau r t = some o ∧ ((o.2 = false ∧ ∀ s, ZN r.FeedTrain.Steps (t - r.at_) s = 0) ∨ (o.2 = true ∧ 0 ≤ o.1.Section ∧ o.1.Section ≤ (m : Int) - 1 ∧ -20000 ≤ o.1.Power ∧ o.1.Power ≤ 20000 ∧ ∀ s : Nat, ZN r.FeedTrain.Steps (t - r.at_) s = if o.1.Section = (s : Int) then o.1.Power else 0)) := by
  obtain ⟨h1, h2, h3, h4⟩ := h
  unfold Qau
  rw [Yt (by omega), Yt (by omega), JI, QI]
  by_cases hin : 0 ≤ t - r.at_ ∧ t - r.at_ ≤ (r.FeedTrain.Steps.length : Int) - 1
  · have e : (decide (0 ≤ t - r.at_) && decide (t - r.at_ ≤ (r.FeedTrain.Steps.length : Int) - 1)) = true := by
      rw [decide_eq_true hin.1, decide_eq_true hin.2]; rfl
    have hk : (t - r.at_).toNat < r.FeedTrain.Steps.length := by omega
    have hidx : idx r.FeedTrain.Steps (t - r.at_) = some r.FeedTrain.Steps[(t - r.at_).toNat] := by
      unfold idx; rw [if_pos hin.1, List.getElem?_eq_getElem hk]
    rw [e]
    simp only [Bool.not_true, cond_false]
    rw [hidx, QI]
    have hb := h1 _ (List.getElem_mem hk)
    refine ⟨_, rfl, .inr ⟨rfl, hb.1, hb.2.1, hb.2.2.1, hb.2.2.2, fun s => ?_⟩⟩
    unfold ZN
    rw [if_pos hin, List.getElem?_eq_getElem hk]
  · have e : (decide (0 ≤ t - r.at_) && decide (t - r.at_ ≤ (r.FeedTrain.Steps.length : Int) - 1)) = false := by
      rw [Bool.eq_false_iff]; intro e; simp at e; exact hin (by omega)
    rw [e]
    exact ⟨_, rfl, .inl ⟨rfl, fun s => by unfold ZN; rw [if_neg hin]⟩⟩
theorem Qtx {n : FeedNet} {l : List feed_run} (hn : n.Sections.length < 1000) (hl : l.length ≤ 8) (h : ∀ r ∈ l, ZU n.Sections.length r) {t : Int} (ht : 0 ≤ t) (ht2 : t ≤ 100000) :
    J8 ⟨n⟩ l t = some ((List.range n.Sections.length).map (XF l t)) := by
  have key : loop (Qch l t) ((List.range n.Sections.length).map (fun _ => (0 : Int)), 0) = some ((List.range n.Sections.length).map (XF l t)) :=
    Jh (fun k => ((List.range n.Sections.length).map (XF (l.take k) t), (k : Int))) l.length (fun k hk => by
      obtain ⟨o, ho, hc⟩ := QLx (h _ (List.getElem_mem hk)) ht ht2
      unfold Qch
      simp only [XZ hk, cond_true, XR hk, QI, ho]
      rw [X2 k (by omega)]
      rcases hc with ⟨h1, h2⟩ | ⟨h1, h2, h3, h4, h5, h6⟩
      · rw [h1, cond_false]
        congr 3
        apply List.map_congr_left
        intro s _
        rw [Qlq hk, h2 s]; simp
      · rw [h1, cond_true]
        have hs : o.1.Section.toNat < n.Sections.length := by omega
        have hsi : ((o.1.Section.toNat : Nat) : Int) = o.1.Section := by omega
        have hidx : idx ((List.range n.Sections.length).map (XF (l.take k) t)) o.1.Section = some (XF (l.take k) t o.1.Section.toNat) := by
          unfold idx; rw [if_pos h2]; simp [hs]
        have hb := Qlp (l := l.take k) (fun r hr => h r (List.mem_of_mem_take hr)) t o.1.Section.toNat
        have hlen : (l.take k).length ≤ 8 := by rw [List.length_take]; omega
        have hnew : w64 (XF (l.take k) t o.1.Section.toNat + o.1.Power) = XF (l.take (k + 1)) t o.1.Section.toNat := by
          rw [Qlq hk, h6, if_pos (by omega)]; exact Yt (by omega)
        rw [hidx, QI, QI, hnew, QKi (f := XF (l.take k) t) (g := XF (l.take (k + 1)) t) hs (fun i hi => by rw [Qlq hk, h6, if_neg (by omega)]; simp)]) (by
      unfold Qch
      simp only [X0, cond_false, List.take_length])
  unfold J8
  rw [Qle _ hn, QI, key]; rfl
end Go.Gw

end
section
set_option maxRecDepth 4096
namespace Go.Gw
open Go
structure NetOk (n : FeedNet) : Prop where
  st0 : 0 < n.Stations.length
  st6 : n.Stations.length ≤ 6
  se0 : 0 < n.Sections.length
  se10 : n.Sections.length ≤ 10
  tr6 : n.Trains.length ≤ 6
  lim : ∀ s ∈ n.Stations, 0 ≤ s.Limit ∧ s.Limit ≤ 100000
  sec : ∀ s ∈ n.Sections, ZE s n.Stations.length = 0
  tr : ∀ t ∈ n.Trains, Jt t n.Sections.length = 0
theorem Qru {f : Nat → Int} {n : Nat} (h : (match XS f n with | some i => f i | none => 0) = 0) : ∀ j, j < n → f j = 0 := by
  rcases Qaw f n with ⟨h1, h2⟩ | ⟨i, h1, h2, h3, h4⟩
  · exact h2
  · rw [h1] at h; exact absurd h h3
theorem QFv {n : FeedNet} (h : (Z1 n).2 = 0) : NetOk n := by
  unfold Z1 at h
  split at h
  · cases h
  · rename_i h1
    split at h
    · cases h
    · rename_i h2
      rcases Qaw (Zk n) n.Stations.length with ⟨a1, a2⟩ | ⟨i, a1, a2, a3, _⟩
      · rw [a1] at h
        rcases Qaw (Zj n) n.Sections.length with ⟨b1, b2⟩ | ⟨i, b1, b2, b3, _⟩
        · rw [b1] at h
          rcases Qaw (Zo n) n.Trains.length with ⟨c1, c2⟩ | ⟨i, c1, c2, c3, _⟩
          · refine ⟨by omega, by omega, by omega, by omega, by omega, fun s hs => ?_, fun s hs => ?_, fun t ht => ?_⟩
            · obtain ⟨k, hk, rfl⟩ := List.mem_iff_getElem.1 hs
              have := a2 k hk
              rw [show Zk n k = stE n.Stations[k] ((n.Stations.take k).map (·.Name)) from ZP _ _ _ hk] at this
              unfold stE at this
              split at this
              · rename_i hc; exact absurd this hc
              · cases hb : (decide (0 ≤ n.Stations[k].Limit) && decide (n.Stations[k].Limit ≤ 100000)) with
                | true => simpa using hb
                | false => rw [hb] at this; cases this
            · obtain ⟨k, hk, rfl⟩ := List.mem_iff_getElem.1 hs
              have := b2 k hk
              rwa [show Zj n k = ZE n.Sections[k] n.Stations.length from ZP _ _ _ hk] at this
            · obtain ⟨k, hk, rfl⟩ := List.mem_iff_getElem.1 ht
              have := c2 k hk
              rw [show Zo n k = trE n.Trains[k] ((n.Trains.take k).map (·.Name)) n.Sections.length from ZP _ _ _ hk] at this
              unfold trE at this
              split at this
              · rename_i hc; exact absurd this hc
              · exact this
          · rw [c1] at h; exact absurd h c3
        · rw [b1] at h; exact absurd h b3
      · rw [a1] at h; exact absurd h a3
theorem QMx {t : FeedTrain} {m : Nat} (h : Jt t m = 0) : (0 ≤ t.Earliest ∧ t.Earliest ≤ 1000) ∧ (0 ≤ t.Latest ∧ t.Latest ≤ 1000) ∧ t.Earliest ≤ t.Latest ∧ 0 < t.Steps.length ∧ t.Steps.length ≤ 12 ∧ ∀ x ∈ t.Steps, 0 ≤ x.Section ∧ x.Section ≤ (m : Int) - 1 ∧ -20000 ≤ x.Power ∧ x.Power ≤ 20000 := by
  unfold Jt Qwx at h
  cases h1 : (decide (0 ≤ t.Earliest) && decide (t.Earliest ≤ 1000)) with
  | false => rw [h1] at h; cases h
  | true =>
    cases h2 : (decide (0 ≤ t.Latest) && decide (t.Latest ≤ 1000)) with
    | false => rw [h1, h2] at h; cases h
    | true =>
      cases h3 : decide (t.Earliest ≤ t.Latest) with
      | false => rw [h1, h2, h3] at h; cases h
      | true =>
        cases h4 : decide (0 < (t.Steps.length : Int)) with
        | false => rw [h1, h2, h3, h4] at h; cases h
        | true =>
          cases h5 : decide ((t.Steps.length : Int) ≤ 12) with
          | false => rw [h1, h2, h3, h4, h5] at h; cases h
          | true =>
            rw [h1, h2, h3, h4, h5] at h
            simp only [Bool.and_self, Bool.not_true, cond_false] at h
            unfold Qhe at h
            have hz := Qru h
            simp only [Bool.and_eq_true, decide_eq_true_eq] at h1 h2 h3 h4 h5
            refine ⟨h1, h2, h3, by omega, by omega, fun x hx => ?_⟩
            obtain ⟨k, hk, rfl⟩ := List.mem_iff_getElem.1 hx
            have := hz k hk
            rw [Qku _ _ _ hk] at this
            unfold ZF at this
            cases a : (decide (0 ≤ t.Steps[k].Section) && decide (t.Steps[k].Section ≤ (m : Int) - 1)) with
            | false => rw [a] at this; cases this
            | true =>
              cases b : (decide (-20000 ≤ t.Steps[k].Power) && decide (t.Steps[k].Power ≤ 20000)) with
              | false => rw [a, b] at this; cases this
              | true =>
                simp only [Bool.and_eq_true, decide_eq_true_eq] at a b
                exact ⟨a.1, a.2, b.1, b.2⟩
theorem QJx {n : FeedNet} (hn : NetOk n) {d : FeedDeparture} {o : List FeedDeparture} (h : Ja n d o = 0) : ZU n.Sections.length (XM n d) := by
  have h0 := Qiy h
  obtain ⟨t, h1, h2, h3⟩ := Qho h0
  have ht := QMx (hn.tr t (List.mem_of_getElem? h1))
  unfold Ja at h
  rw [if_neg (by omega)] at h
  split at h
  · cases h
  · cases b : (decide (0 ≤ d.At) && decide (d.At ≤ 1000)) with
    | false => rw [b] at h; cases h
    | true =>
      simp only [Bool.and_eq_true, decide_eq_true_eq] at b
      unfold ZU XM
      rw [h1]
      exact ⟨ht.2.2.2.2.2, ht.2.2.2.2.1, b.1, b.2⟩
end Go.Gw

end
section
set_option maxRecDepth 4096
namespace Go.Gw
open Go
structure LadOk (l : FeedLadder) : Prop where
  pos : 0 < l.Loads.length
  most : l.Loads.length ≤ 8
  len : l.Ohms.length = l.Loads.length + 1
  ohm : ∀ x ∈ l.Ohms, 1 ≤ x ∧ x ≤ 500
  load : ∀ x ∈ l.Loads, -20000 ≤ x ∧ x ≤ 20000
theorem Qcu {a b m n : Int} (ha : -m ≤ a ∧ a ≤ m) (hb : -n ≤ b ∧ b ≤ n) : -(m * n) ≤ a * b ∧ a * b ≤ m * n := by
  have h1 : a.natAbs ≤ m.natAbs := by omega
  have h2 : b.natAbs ≤ n.natAbs := by omega
  have h3 := Nat.mul_le_mul h1 h2
  rw [← Int.natAbs_mul, ← Int.natAbs_mul] at h3
  have h4 : 0 ≤ m * n := Int.mul_nonneg (by omega) (by omega)
  omega
def pk (l : FeedLadder) (k : Nat) : Int := (l.Loads.take k).sum
def lf (l : FeedLadder) : Nat → Int
  | 0 => 0
  | k + 1 => lf l k + l.Ohms.getD k 0 * pk l k
def rk (l : FeedLadder) : Nat → Int
  | 0 => 0
  | k + 1 => rk l k + l.Loads.getD k 0 * (l.Ohms.drop (k + 1)).sum
section
variable {l : FeedLadder} (h : LadOk l)
include h
end
noncomputable def QOm (l : FeedLadder) (A L : Int) (n : Nat) : List Frac := (List.range n).map fun i => QFj (L - pk l i * A) A
section
variable {l : FeedLadder} (h : LadOk l)
include h
end
end Go.Gw

end
section
set_option maxRecDepth 4096
namespace Go.Gw
open Go
def XP (s : FeedSection) (p : Int) : Int := if p < 0 then p * (1000 - s.Loss) else p * (1000 + s.Loss)
def XT (s : FeedSection) (k : Int) : Int := if s.Left = k then s.Share else if s.Right = k then 1000 - s.Share else 0
def ZH (s : FeedSection) : Prop := (0 ≤ s.Share ∧ s.Share ≤ 1000) ∧ 0 ≤ s.Loss ∧ s.Loss ≤ 500
theorem Quy {s : FeedSection} {n : Nat} (h : ZE s n = 0) : ZH s := by
  unfold ZE Quz at h
  have key : ((decide (0 ≤ s.Share) && decide (s.Share ≤ 1000)) && (decide (0 ≤ s.Loss) && decide (s.Loss ≤ 500))) = true := by
    cases hb : ((decide (0 ≤ s.Share) && decide (s.Share ≤ 1000)) && (decide (0 ≤ s.Loss) && decide (s.Loss ≤ 500))) with
    | true => rfl
    | false =>
      rw [hb] at h
      revert h
      generalize ((!(decide (s.Left = -1) || (decide (0 ≤ s.Left) && decide (s.Left ≤ (n : Int) - 1)))) || !(decide (s.Right = -1) || (decide (0 ≤ s.Right) && decide (s.Right ≤ (n : Int) - 1)))) = a
      generalize (decide (s.Left = -1) && decide (s.Right = -1)) = b
      generalize decide (s.Left = s.Right) = c
      cases a <;> cases b <;> cases c <;> intro h <;> cases h
  simp only [Bool.and_eq_true, decide_eq_true_eq] at key
  exact ⟨key.1, key.2⟩
theorem Qen {s : FeedSection} (hs : ZH s) {p : Int} (hp : -160000 ≤ p ∧ p ≤ 160000) : -240000000 ≤ XP s p ∧ XP s p ≤ 240000000 := by
  obtain ⟨_, h1, h2⟩ := hs
  unfold XP
  split
  · have := Qcu (a := p) (b := 1000 - s.Loss) (m := 160000) (n := 1500) hp (by omega); omega
  · have := Qcu (a := p) (b := 1000 + s.Loss) (m := 160000) (n := 1500) hp (by omega); omega
theorem Qma {s : FeedSection} (hs : ZH s) (k : Int) : -1000 ≤ XT s k ∧ XT s k ≤ 1000 := by
  obtain ⟨h0, _⟩ := hs
  unfold XT
  split
  · omega
  · split <;> omega
theorem Qol {s : FeedSection} (hs : ZH s) {p : Int} (hp : -160000 ≤ p ∧ p ≤ 160000) : Qao s p = some (XP s p) := by
  have hb := Qen hs hp
  obtain ⟨_, h1, h2⟩ := hs
  unfold Qao XP at *
  by_cases h : p < 0
  · rw [if_pos h] at hb ⊢
    rw [decide_eq_true h, cond_true, Yt (x := 1000 - s.Loss) (by omega), Yt (by omega)]
  · rw [if_neg h] at hb ⊢
    rw [decide_eq_false h, cond_false, Yt (x := 1000 + s.Loss) (by omega), Yt (by omega)]
theorem QIt {s : FeedSection} (hs : ZH s) {p : Int} (hp : -160000 ≤ p ∧ p ≤ 160000) : Qlu s p = some (XP s p) := Qol hs hp
theorem Qtz {s : FeedSection} (hs : ZH s) (k : Int) : Qde s k = some (XT s k) := by
  obtain ⟨h0, _⟩ := hs
  unfold Qde XT
  by_cases h1 : s.Left = k
  · rw [decide_eq_true h1, if_pos h1]; rfl
  · rw [decide_eq_false h1, if_neg h1]
    by_cases h2 : s.Right = k
    · rw [decide_eq_true h2, if_pos h2]
      simp only [cond_false, cond_true]
      rw [Yt (by omega)]
    · rw [decide_eq_false h2, if_neg h2]; rfl
theorem Qzz {s : FeedSection} (hs : ZH s) (k : Int) : Qap s k = some (XT s k) := by
  rw [← Qtz hs k]
  unfold Qap Qde
  rw [show decide (k = s.Left) = decide (s.Left = k) from decide_eq_decide.2 eq_comm, show decide (k = s.Right) = decide (s.Right = k) from decide_eq_decide.2 eq_comm]
end Go.Gw

end
section
set_option maxRecDepth 4096
namespace Go.Gw
open Go
def Zg (secs : List FeedSection) (f : Nat → Int) (k : Nat) : Nat → Int
  | 0 => 0
  | j + 1 => Zg secs f k j + (secs[j]?.map fun s => XP s (f j) * XT s (k : Int)).getD 0
section
variable {secs : List FeedSection} {f : Nat → Int} (hs : ∀ s ∈ secs, ZH s) (hf : ∀ j, -160000 ≤ f j ∧ f j ≤ 160000)
include hs hf
theorem QMu (k j : Nat) : -240000000000 ≤ (secs[j]?.map fun s => XP s (f j) * XT s (k : Int)).getD 0 ∧ (secs[j]?.map fun s => XP s (f j) * XT s (k : Int)).getD 0 ≤ 240000000000 := by
  by_cases hj : j < secs.length
  · rw [List.getElem?_eq_getElem hj]
    have h1 := hs _ (List.getElem_mem hj)
    have := Qcu (Qen h1 (hf j)) (Qma h1 (k : Int))
    simp only [Option.map_some, Option.getD_some]
    omega
  · rw [List.getElem?_eq_none (Nat.le_of_not_lt hj)]; simp
theorem Qla (k : Nat) : ∀ j : Nat, -(240000000000 * (j : Int)) ≤ Zg secs f k j ∧ Zg secs f k j ≤ 240000000000 * (j : Int)
  | 0 => by simp [Zg]
  | j + 1 => by
    have h1 := Qla k j
    have h2 := QMu hs hf k j
    simp only [Zg]
    omega
end
theorem Qry {secs : List FeedSection} {f : Nat → Int} {k j : Nat} (hj : j < secs.length) : (secs[j]?.map fun s => XP s (f j) * XT s (k : Int)).getD 0 = XP secs[j] (f j) * XT secs[j] (k : Int) := by
  rw [List.getElem?_eq_getElem hj]; rfl
theorem Qua (m j : Nat) (hj : j < m) (f g : Nat → Int) : ((List.range m).map fun i => if i < j then g i else f i).set j (g j) = (List.range m).map fun i => if i < j + 1 then g i else f i := by
  apply List.ext_getElem?
  intro i
  by_cases hi : i = j
  · subst hi
    rw [List.getElem?_set_self (by simpa using hj)]
    simp [hj]
  · rw [List.getElem?_set_ne (Ne.symm hi)]
    by_cases him : i < m
    · simp only [List.getElem?_map, List.getElem?_range him, Option.map_some, Option.some.injEq]
      by_cases h1 : i < j
      · rw [if_pos h1, if_pos (by omega)]
      · rw [if_neg h1, if_neg (by omega)]
    · simp [him]
theorem Qsa (m j : Nat) (hj : j < m) (f g : Nat → Int) : idx ((List.range m).map fun i => if i < j then g i else f i) (j : Int) = some (f j) := by
  rw [XR?]
  simp [hj]
theorem QAa {s : FeedSection} (hs : ZH s) {p : Int} (hp : -160000 ≤ p ∧ p ≤ 160000) {m : Nat} (hm : m < 1000) {f : Nat → Int} (hf : ∀ i, -1000000000000000 ≤ f i ∧ f i ≤ 1000000000000000) :
    loop (Qar p s ((List.range m).map f)) ((List.range m).map f, 0) = some ((List.range m).map fun i => f i + XP s p * XT s (i : Int)) := by
  have e0 : ((List.range m).map fun i => if i < 0 then f i + XP s p * XT s (i : Int) else f i) = (List.range m).map f := by
    apply List.map_congr_left; intro i _; simp
  have eN : ((List.range m).map fun i => if i < m then f i + XP s p * XT s (i : Int) else f i) = (List.range m).map fun i => f i + XP s p * XT s (i : Int) := by
    apply List.map_congr_left; intro i hi; rw [if_pos (List.mem_range.1 hi)]
  have hlen : (((List.range m).map f).length : Int) = (m : Int) := by simp
  have key := Jh (step := Qar p s ((List.range m).map f)) (o := (List.range m).map fun i => f i + XP s p * XT s (i : Int)) (fun j => ((List.range m).map fun i => if i < j then f i + XP s p * XT s (i : Int) else f i, (j : Int))) m (fun j hj => by
    have hb := Qcu (Qen hs hp) (Qma hs (j : Int))
    have hfj := hf j
    unfold Qar
    simp only [hlen, XZ hj, cond_true, Qsa m j hj f (fun i => f i + XP s p * XT s (i : Int)), QI]
    rw [Qol hs hp, QI, Qzz hs, QI, Yt (x := XP s p * XT s (j : Int)) (by omega), Yt (x := f j + XP s p * XT s (j : Int)) (by omega), X2 j (by omega)]
    simp only [Int.toNat_natCast]
    rw [Qua m j hj f (fun i => f i + XP s p * XT s (i : Int))]) (by
    unfold Qar
    simp only [hlen, X0, cond_false, eN])
  simp only [e0] at key
  exact key
def JE (n : FeedNet) (f : Nat → Int) : List Int := (List.range n.Stations.length).map fun k => Zg n.Sections f k n.Sections.length
theorem QAc {n : FeedNet} (hn : NetOk n) {l : List feed_run} (hl : l.length ≤ 8) (h : ∀ r ∈ l, ZU n.Sections.length r) {t : Int} (ht : 0 ≤ t) (ht2 : t ≤ 100000) : Qas ⟨n⟩ l t = some (JE n (XF l t)) := by
  have h1 := hn.st6
  have h2 := hn.se10
  have hs : ∀ s ∈ n.Sections, ZH s := fun s hx => Quy (hn.sec s hx)
  have hf : ∀ j, -160000 ≤ XF l t j ∧ XF l t j ≤ 160000 := fun j => by have := Qlp h t j; omega
  have hlen : (((List.range n.Sections.length).map (XF l t)).length : Int) = (n.Sections.length : Int) := by simp
  have key : loop (Qcg ⟨n⟩ ((List.range n.Sections.length).map (XF l t))) ((List.range n.Stations.length).map (fun _ => (0 : Int)), 0) = some (JE n (XF l t)) :=
    Jh (fun j => ((List.range n.Stations.length).map (fun k => Zg n.Sections (XF l t) k j), (j : Int))) n.Sections.length (fun j hj => by
      have hb : ∀ k, -1000000000000000 ≤ Zg n.Sections (XF l t) k j ∧ Zg n.Sections (XF l t) k j ≤ 1000000000000000 := fun k => by have := Qla hs hf k j; omega
      have hidx : idx ((List.range n.Sections.length).map (XF l t)) (j : Int) = some (XF l t j) := by rw [XR?]; simp [hj]
      unfold Qcg
      simp only [hlen, XZ hj, cond_true, hidx, QI, XR hj]
      rw [QAa (hs _ (List.getElem_mem hj)) (hf j) (by omega) hb, QI, X2 j (by omega)]
      congr 3
      apply List.map_congr_left
      intro k _
      simp only [Zg, Qry hj]) (by
      unfold Qcg JE
      simp only [hlen, X0, cond_false])
  unfold Qas
  show (Option.bind (mk (n.Stations.length : Int) (0 : Int)) _) = _
  rw [Qle _ (by omega), QI, Qtx (by omega) hl h ht ht2, QI, key]
  rfl
theorem QIu {s : FeedSection} (hs : ZH s) {p : Int} (hp : -160000 ≤ p ∧ p ≤ 160000) {m : Nat} (hm : m < 1000) {f : Nat → Int} (hf : ∀ i, -1000000000000000 ≤ f i ∧ f i ≤ 1000000000000000) :
    loop (Qdb s (XP s p)) ((List.range m).map f, 0) = some ((List.range m).map fun i => f i + XP s p * XT s (i : Int)) := by
  have e0 : ((List.range m).map fun i => if i < 0 then f i + XP s p * XT s (i : Int) else f i) = (List.range m).map f := by
    apply List.map_congr_left; intro i _; simp
  have eN : ((List.range m).map fun i => if i < m then f i + XP s p * XT s (i : Int) else f i) = (List.range m).map fun i => f i + XP s p * XT s (i : Int) := by
    apply List.map_congr_left; intro i hi; rw [if_pos (List.mem_range.1 hi)]
  have key := Jh (step := Qdb s (XP s p)) (o := (List.range m).map fun i => f i + XP s p * XT s (i : Int)) (fun j => ((List.range m).map fun i => if i < j then f i + XP s p * XT s (i : Int) else f i, (j : Int))) m (fun j hj => by
    have hb := Qcu (Qen hs hp) (Qma hs (j : Int))
    have hfj := hf j
    have hlen : (((List.range m).map fun i => if i < j then f i + XP s p * XT s (i : Int) else f i).length : Int) = (m : Int) := by simp
    unfold Qdb
    simp only [hlen, XZ hj, cond_true, Qsa m j hj f (fun i => f i + XP s p * XT s (i : Int)), QI]
    rw [Qtz hs, QI, Yt (x := XP s p * XT s (j : Int)) (by omega), Yt (x := f j + XP s p * XT s (j : Int)) (by omega), X2 j (by omega)]
    simp only [Int.toNat_natCast]
    rw [Qua m j hj f (fun i => f i + XP s p * XT s (i : Int))]) (by
    have hlen : (((List.range m).map fun i => f i + XP s p * XT s (i : Int)).length : Int) = (m : Int) := by simp
    unfold Qdb
    simp only [eN, hlen, X0, cond_false])
  simp only [e0] at key
  exact key
theorem QIv {n : FeedNet} (hn : NetOk n) {l : List FeedDeparture} {t : Int} {f : Nat → Int} (hf : ∀ j, -160000 ≤ f j ∧ f j ≤ 160000) (hp : ∀ j : Nat, j < n.Sections.length → Qad n l (j : Int) t = some (f j)) : Qgh n l t = some (JE n f) := by
  have h1 := hn.st6
  have h2 := hn.se10
  have hs : ∀ s ∈ n.Sections, ZH s := fun s hx => Quy (hn.sec s hx)
  have key : loop (Qgg l n t) ((List.range n.Stations.length).map (fun _ => (0 : Int)), 0) = some (JE n f) :=
    Jh (fun j => ((List.range n.Stations.length).map (fun k => Zg n.Sections f k j), (j : Int))) n.Sections.length (fun j hj => by
      have hb : ∀ k, -1000000000000000 ≤ Zg n.Sections f k j ∧ Zg n.Sections f k j ≤ 1000000000000000 := fun k => by have := Qla hs hf k j; omega
      unfold Qgg
      simp only [XZ hj, cond_true, XR hj, QI, hp j hj]
      rw [QIt (hs _ (List.getElem_mem hj)) (hf j), QI, QIu (hs _ (List.getElem_mem hj)) (hf j) (by omega) hb, QI, X2 j (by omega)]
      congr 3
      apply List.map_congr_left
      intro k _
      simp only [Zg, Qry hj]) (by
      unfold Qgg JE
      simp only [X0, cond_false])
  unfold Qgh
  rw [Qle _ (by omega), QI, key]
  rfl
end Go.Gw

end
section
set_option maxRecDepth 4096
namespace Go.Gw
open Go
def pd (t : Int) (s : Nat) (r : feed_run) : List Int := if 0 ≤ t - r.at_ ∧ t - r.at_ ≤ (r.FeedTrain.Steps.length : Int) - 1 then (match r.FeedTrain.Steps[(t - r.at_).toNat]? with | some x => if x.Section = (s : Int) then [x.Power] else [] | none => []) else []
theorem QIm (t : Int) (s : Nat) (r : feed_run) : (pd t s r).sum = ZN r.FeedTrain.Steps (t - r.at_) s := by
  unfold pd ZN
  by_cases h : 0 ≤ t - r.at_ ∧ t - r.at_ ≤ (r.FeedTrain.Steps.length : Int) - 1
  · rw [if_pos h, if_pos h]
    cases hx : r.FeedTrain.Steps[(t - r.at_).toNat]? with
    | none => rfl
    | some x => by_cases hs : x.Section = (s : Int) <;> simp [hs]
  · rw [if_neg h, if_neg h]; rfl
theorem QIk (t : Int) (s : Nat) (r : feed_run) : (pd t s r).length ≤ 1 := by
  unfold pd
  split
  · split
    · split <;> simp
    · simp
  · simp
theorem QIl {m : Nat} {r : feed_run} (h : ZU m r) (t : Int) (s : Nat) : ∀ x ∈ pd t s r, -20000 ≤ x ∧ x ≤ 20000 := by
  intro x hx
  unfold pd at hx
  split at hx
  · split at hx
    · rename_i y hy
      split at hx
      · obtain rfl := List.mem_singleton.1 hx
        have := h.1 y (List.mem_of_getElem? hy); omega
      · cases hx
    · cases hx
  · cases hx
theorem Qrw (t : Int) (s : Nat) : ∀ l : List feed_run, (l.flatMap (pd t s)).sum = XF l t s
  | [] => rfl
  | r :: l => by
    rw [List.flatMap_cons, List.sum_append, Qrw t s l, QIm]
    simp [XF]
theorem Qkq (t : Int) (s : Nat) : ∀ l : List feed_run, (l.flatMap (pd t s)).length ≤ l.length
  | [] => by simp
  | r :: l => by
    rw [List.flatMap_cons, List.length_append]
    have := Qkq t s l
    have := QIk t s r
    rw [List.length_cons]; omega
theorem QIw {n : FeedNet} (hn : n.Trains.length < 1000) {l : List FeedDeparture} (hl : l.length ≤ 8) {m : Nat} (h0 : ∀ d ∈ l, 0 ≤ Yf n d.Train) (h : ∀ d ∈ l, ZU m (XM n d)) {t : Int} (ht : 0 ≤ t) (ht2 : t ≤ 100000) (s : Nat) :
    Qad n l (s : Int) t = some (XF (l.map (XM n)) t s) := by
  have key : loop (Qgm l n (s : Int) t) (([] : List Int), 0) = some ((l.map (XM n)).flatMap (pd t s)) :=
    Jh (fun k => (((l.take k).map (XM n)).flatMap (pd t s), (k : Int))) l.length (fun k hk => by
      have hd := List.getElem_mem hk
      obtain ⟨T, h1, h2, h3⟩ := Qho (h0 _ hd)
      have hr := h _ hd
      have hrun : XM n l[k] = feed_run.mk T l[k].At := by unfold XM; rw [h1]; rfl
      obtain ⟨r1, r2, r3, r4⟩ := hr
      rw [hrun] at r1 r2 r3 r4
      have hidx : idx n.Trains (Yf n l[k].Train) = some T := by unfold idx; rw [if_pos (h0 _ hd)]; exact h1
      have hlen := Qkq t s ((l.take k).map (XM n))
      have hnext : ((l.take k).map (XM n)).flatMap (pd t s) ++ pd t s (XM n l[k]) = ((l.take (k + 1)).map (XM n)).flatMap (pd t s) := by
        rw [← Qhf l (XM n) k hk, List.flatMap_append]; simp
      have hlk : ((l.take k).map (XM n)).length ≤ 8 := by simp; omega
      unfold Qgm
      simp only [XZ hk, cond_true, XR hk, QI]
      rw [Qlr n _ (by omega), QI, hidx, QI, QI]
      simp only []
      simp only at r2 r3 r4
      rw [Yt (x := t - l[k].At) (by omega), Yt (x := (T.Steps.length : Int) - 1) (by omega), JO, QI, X2 k (by omega), ← hnext, hrun]
      unfold pd
      by_cases hin : 0 ≤ t - l[k].At ∧ t - l[k].At ≤ (T.Steps.length : Int) - 1
      · have hk2 : (t - l[k].At).toNat < T.Steps.length := by omega
        have hi2 : idx T.Steps (t - l[k].At) = some T.Steps[(t - l[k].At).toNat] := by unfold idx; rw [if_pos hin.1, List.getElem?_eq_getElem hk2]
        rw [decide_eq_true hin.1, decide_eq_true hin.2, if_pos hin, List.getElem?_eq_getElem hk2]
        simp only [Bool.and_self, cond_true, Bool.true_and, hi2, QI]
        by_cases hsec : T.Steps[(t - l[k].At).toNat].Section = (s : Int)
        · rw [decide_eq_true hsec, if_pos hsec, cond_true, Jz (by show (((l.take k).map (XM n)).flatMap (pd t s)).length + 1 ≤ 1073741824; omega), QI]
        · rw [decide_eq_false hsec, if_neg hsec, cond_false, List.append_nil]
      · have e : (decide (0 ≤ t - l[k].At) && decide (t - l[k].At ≤ (T.Steps.length : Int) - 1)) = false := by
          rw [Bool.eq_false_iff]; intro e; simp only [Bool.and_eq_true, decide_eq_true_eq] at e; exact hin e
        rw [e, if_neg hin]
        simp only [cond_false, QI, Bool.false_and, List.append_nil]) (by
      unfold Qgm
      simp only [X0, cond_false, List.take_length])
  unfold Qad Qlv
  rw [key, QI, QI, QLy (c := 20000) (by omega) (by omega) (fun x hx => ?_) (by have := Qkq t s (l.map (XM n)); rw [List.length_map] at this; omega), QI, Qrw]
  obtain ⟨r, hr, hx⟩ := List.mem_flatMap.1 hx
  obtain ⟨d, hd, rfl⟩ := List.mem_map.1 hr
  exact QIl (h d hd) t s x hx
end Go.Gw

end
section
set_option maxRecDepth 4096
namespace Go.Gw
open Go
theorem Qoj {α : Type} [DecidableEq α] : ∀ (a b : List α) (hl : a.length = b.length) (k : Nat), (jn0 (XN (fun (x : α × α) => !decide (x.1 = x.2)) (fun _ _ => false) k (a.zip b)) fun (_ : Unit) => some true) = some (decide (a = b))
  | [], [], _, k => by simp [XN, jn0]
  | [], _ :: _, hl, _ => by simp at hl
  | _ :: _, [], hl, _ => by simp at hl
  | x :: a, y :: b, hl, k => by
    by_cases hxy : x = y
    · subst hxy
      have := Qoj a b (by simpa using hl) (k + 1)
      simp only [List.zip_cons_cons, XN]
      simpa using this
    · simp [XN, hxy, jn0]
theorem Qxl {α : Type} {a b : List α} (hl : a.length = b.length) : (a.zip b).length = a.length := by simp [hl]
noncomputable def Qod (f : Frac) : Int := if 0 < f.Den ∧ Qnk f.Num f.Den = some 1 then (if -1000000000 ≤ f.Num ∧ f.Num ≤ 1000000000 ∧ f.Den ≤ 1000000000 then 0 else 2) else 3
noncomputable def Qzg : List Frac → Int
  | [] => 0
  | f :: l => if Qod f = 0 then Qzg l else Qod f
end Go.Gw

end
section
set_option maxRecDepth 4096
namespace Go.Gw
open Go
def Qem (n : FeedNet) (l : List FeedDeparture) : Int := if 6 < l.length then 8 else match XS (YD n l) l.length with | some i => YD n l i | none => 0
def Zc (n : FeedNet) (l : List FeedDeparture) : Int := if (Z1 n).2 ≠ 0 then (Z1 n).2 else Qem n l
def Z5 (n : FeedNet) (s : Int) : Int := if 0 ≤ s ∧ s ≤ (n.Sections.length : Int) - 1 then 0 else 6
def Zn (t : Int) : Int := if 0 ≤ t ∧ t ≤ 1012 then 0 else 2
theorem Qhp (a b : Prop) [Decidable a] [Decidable b] : (decide a && decide b) = decide (a ∧ b) := (Bool.decide_and a b).symm
theorem Qom (t : Int) : JQ t = some (Zn t) := by
  unfold JQ Zn
  rw [JI, QI, Z9, QI, Qhp]
  by_cases h : 0 ≤ t ∧ t ≤ 1012 <;> simp [h]
theorem QJb (t : Int) : Qdc t = some (Zn t) := by
  unfold Qdc Zn
  rw [JO, QI, Qhp]
  by_cases h : 0 ≤ t ∧ t ≤ 1012 <;> simp [h]
theorem QAe {n : FeedNet} (hn : n.Sections.length < 1000) (s : Int) : Qez ⟨n⟩ s = some (Z5 n s) := by
  unfold Qez Z5
  simp only []
  rw [Yt (x := (n.Sections.length : Int) - 1) (by omega), JI, QI, Z9, QI, Qhp]
  by_cases h : 0 ≤ s ∧ s ≤ (n.Sections.length : Int) - 1 <;> simp [h]
theorem QIx {n : FeedNet} (hn : n.Sections.length < 1000) (s : Int) : Qgj n s = some (Z5 n s) := by
  unfold Qgj Qdd Z5
  rw [Yt (x := (n.Sections.length : Int) - 1) (by omega), JO, QI, QI, Qhp]
  by_cases h : 0 ≤ s ∧ s ≤ (n.Sections.length : Int) - 1 <;> simp [h]
theorem Qtp {n : FeedNet} (h : NetS n) (l : List FeedDeparture) : JP n l = some (⟨n⟩, (if Zc n l = 0 then l.map (XM n) else []), Zc n l) := by
  unfold JP Qcl Zc
  rw [Qzy h, QI, QI]
  by_cases h0 : (Z1 n).2 = 0
  · simp only [h0, ne_eq, not_true_eq_false, if_false, decide_true, Bool.not_true, cond_false]
    rw [show feed_net.mk (FeedNet.mk n.Stations n.Sections n.Trains) = feed_net.mk n from rfl, QAd n l h.tr, QI]
    unfold Qem
    by_cases h6 : 6 < l.length
    · simp [h6]
    · rw [if_neg h6, if_neg h6]
      rcases Qaw (YD n l) l.length with ⟨e, _⟩ | ⟨i, e, _, hi, _⟩
      · rw [e]; simp
      · rw [e]; simp [hi]
  · simp [h0]
theorem QIq {n : FeedNet} (h : NetS n) (l : List FeedDeparture) : Qfw n l = some (Zc n l) := by
  unfold Qfw Qls Zc Qem
  rw [QIs h, QI]
  by_cases h0 : (Z1 n).2 = 0
  · simp only [h0, ne_eq, not_true_eq_false, if_false, decide_true, Bool.not_true, cond_false, QI]
    rw [QIr n l h.tr, QI]
    by_cases h6 : 6 < l.length
    · rw [if_pos h6, if_pos h6]
    · rw [if_neg h6, if_neg h6]
      cases XS (YD n l) l.length <;> rfl
  · simp [h0]
theorem Qsf (a b : List Int) (ha : a.length < 1000000) : J4 a b = some (decide (a = b)) := by
  unfold J4
  by_cases hl : a.length = b.length
  · rw [decide_eq_true (by omega), Bool.not_true, cond_false, Zz (a.zip b) (fun x => !decide (x.1 = x.2)) (fun _ _ => false), QI, Qoj a b hl]
    · intro k hk
      rw [Qxl hl] at hk
      unfold Qdx
      rw [XZ hk, cond_true, XR hk, QI, XR (show k < b.length by omega), QI, X2 k (by omega)]
      simp only [List.getElem_zip]
    · rw [Qxl hl]
      unfold Qdx
      rw [X0]; rfl
  · rw [decide_eq_false (by omega)]
    simp only [Bool.not_false, cond_true]
    rw [decide_eq_false]
    intro e; exact hl (by rw [e])
end Go.Gw

end
