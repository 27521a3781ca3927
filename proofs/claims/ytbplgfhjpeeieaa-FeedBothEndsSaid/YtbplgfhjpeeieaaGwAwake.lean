/- Laws of the walk. Condition: each theorem says its own. -/
import Derived.Test.YtbplgfhjpeeieaaGwTwin
import Derived.Test.YtbplgfhjpeeieaaGwPlan
import Derived.IntWalk
set_option linter.unusedVariables false
set_option linter.unusedSimpArgs false
set_option linter.unusedSectionVars false
section
set_option maxRecDepth 1000000
namespace Go.Gw
open Go
theorem Qwu : Qre 60 = some true := by decide +kernel
theorem Qwt : Qeo = some true := QDg _ Qwu
end Go.Gw

end
section
set_option linter.unusedSectionVars false
namespace Go.Gw
open Go

theorem XV {x : Int} (h : -9223372036854775808 ≤ x ∧ x ≤ 9223372036854775807) : w64 x = x := Go.IntWalk.i64_in x h

def Runs {α : Type} (e : Option α) (Q : α → Prop) : Prop := ∃ a, e = some a ∧ Q a

section
variable {α β σ μ : Type} {Q : α → Prop} {e e' : Option α}
theorem Runs.some {a : α} (h : Q a) : Runs (some a) Q := ⟨a, rfl, h⟩
theorem Runs.bind {e : Option β} {f : β → Option α} (h : Runs e fun b => Runs (f b) Q) : Runs (e.bind f) Q := by
  obtain ⟨b, rfl, a, ha, hq⟩ := h; exact ⟨a, ha, hq⟩
theorem Runs.mono {Q' : α → Prop} (h : Runs e Q) (hm : ∀ a, Q a → Q' a) : Runs e Q' := by obtain ⟨a, ha, hq⟩ := h; exact ⟨a, ha, hm _ hq⟩
theorem Runs.eq {a : α} (h : Runs e (· = a)) : e = .some a := by obtain ⟨b, hb, rfl⟩ := h; exact hb
theorem Runs.call {e : Option β} {f : β → Option α} {b : β} (h : e = .some b) (hq : Runs (f b) Q) : Runs (e.bind f) Q := by subst h; exact hq
theorem Runs.bif {b : Bool} (ht : b = true → Runs e Q) (hf : b = false → Runs e' Q) : Runs (bif b then e else e') Q := by
  cases b
  · exact hf rfl
  · exact ht rfl
theorem Runs.bif_t {b : Bool} (hb : b = true) (ht : Runs e Q) : Runs (bif b then e else e') Q := by subst hb; exact ht
theorem Runs.bif_f {b : Bool} (hb : b = false) (hf : Runs e' Q) : Runs (bif b then e else e') Q := by subst hb; exact hf
theorem Runs.jl {b : α} {f : μ → Option α} (h : Q b) : Runs (jn0 (.inl b) f) Q := ⟨b, rfl, h⟩
theorem Runs.j {o : α ⊕ μ} {f : μ → Option α} (hl : ∀ b, o = .inl b → Q b) (hr : ∀ m, o = .inr m → Runs (f m) Q) : Runs (jn0 o f) Q := by
  cases o with
  | inl b => exact Runs.jl (hl b rfl)
  | inr m => exact hr m rfl

def Rnd (I : σ → Prop) (m : σ → Nat) (Q : β → Prop) (s : σ) : σ ⊕ β → Prop
  | .inl s' => I s' ∧ m s' < m s
  | .inr o => Q o
theorem Runs.loop {step : σ → Option (σ ⊕ β)} {s : σ} {Q : β → Prop} (I : σ → Prop) (m : σ → Nat) (h0 : I s) (h : ∀ s, I s → Runs (step s) (Rnd I m Q s)) : Runs (Gw.loop step s) Q := by
  generalize hk : m s = k
  induction k using Nat.strongRecOn generalizing s with
  | _ k ih =>
    obtain ⟨x, hx, hq⟩ := h s h0
    cases x with
    | inl s' =>
      rw [Qjc hx]
      exact ih (m s') (by have := hq.2; omega) hq.1 rfl
    | inr o => rw [Qep hx]; exact ⟨o, rfl, hq⟩
theorem Jr {step : σ → Option (σ ⊕ β)} {o : β} (S : Nat → σ) (n : Nat) (h : ∀ k, k < n → step (S k) = .some (.inl (S (k + 1)))) (he : step (S n) = .some (.inr o)) : Gw.loop step (S 0) = .some o := by
  have key : ∀ j k, j + k = n → Gw.loop step (S k) = .some o := by
    intro j
    induction j with
    | zero => intro k hk; obtain rfl : k = n := by omega
              exact Qep he
    | succ j ih => intro k hk; rw [Qjc (h k (by omega))]; exact ih (k + 1) (by omega)
  exact key n 0 (by omega)

theorem Runs.idx {xs : List β} {i : Int} {f : β → Option α} (h0 : 0 ≤ i) (h1 : i < xs.length) (h : ∀ x, xs[i.toNat]? = .some x → Runs (f x) Q) : Runs ((Gw.idx xs i).bind f) Q := by
  have hl : i.toNat < xs.length := by omega
  have e : Gw.idx xs i = .some xs[i.toNat] := by unfold Gw.idx; rw [if_pos h0, List.getElem?_eq_getElem hl]
  exact Runs.call e (h _ (List.getElem?_eq_getElem hl))
theorem XX {xs : List β} {k : Nat} (h : k < xs.length) : Gw.idx xs (k : Int) = .some xs[k] := by
  unfold Gw.idx; rw [if_pos (by omega), Int.toNat_natCast, List.getElem?_eq_getElem h]
theorem XX? {xs : List β} {k : Nat} : Gw.idx xs (k : Int) = xs[k]? := by
  unfold Gw.idx; rw [if_pos (by omega), Int.toNat_natCast]
theorem Qcp {xs ys : List β} (h : xs.length + ys.length ≤ 1073741824) : app xs ys = .some (xs ++ ys) := by unfold app; rw [if_pos h]
theorem Qgl {xs ys : List β} (h : xs.length + ys.length ≤ 17592186044416) : JN xs ys = .some (xs ++ ys) := by unfold JN; rw [if_pos h]
theorem Qbr {a b : Int} (h : b ≠ 0) : rem a b = .some (a.tmod b) := by unfold rem; rw [if_neg h]
theorem ZN {a b : Int} (h : b ≠ 0) : quo a b = .some (w64 (a.tdiv b)) := by unfold quo; rw [if_neg h]
end
end Go.Gw

end
section
set_option linter.unusedSectionVars false
namespace Go.Gw
section
variable {α β γ σ ρ : Type}
def XH (p : α → Bool) (res : Nat → α → ρ) : Nat → List α → ρ ⊕ Unit
  | _, [] => .inr ()
  | k, x :: xs => if p x then .inl (res k x) else XH p res (k + 1) xs
theorem Z7 {step : Int → Option (Int ⊕ (ρ ⊕ Unit))} (xs : List α) (p : α → Bool) (res : Nat → α → ρ)
    (hs : ∀ k (hk : k < xs.length), step (k : Int) = (bif p xs[k] then some (.inr (.inl (res k xs[k]))) else some (.inl ((k + 1 : Nat) : Int))))
    (he : step (xs.length : Int) = some (.inr (.inr ()))) : loop step 0 = some (XH p res 0 xs) := by
  have key : ∀ j k, j + k = xs.length → loop step (k : Int) = some (XH p res k (xs.drop k)) := by
    intro j
    induction j with
    | zero =>
      intro k hk
      obtain rfl : k = xs.length := by omega
      rw [List.drop_length]
      exact Qep he
    | succ j ih =>
      intro k hk
      have hlt : k < xs.length := by omega
      rw [List.drop_eq_getElem_cons hlt]
      have := hs k hlt
      cases hp : p xs[k] with
      | true => rw [hp] at this; simp only [XH, hp, if_true]; exact Qep this
      | false => rw [hp] at this; simp only [XH, hp]; rw [Qjc this]; exact ih (k + 1) (by omega)
  have := key xs.length 0 (by omega)
  simpa using this

def fld (f : Nat → γ → α → γ) : Nat → γ → List α → γ
  | _, a, [] => a
  | k, a, x :: xs => fld f (k + 1) (f k a x) xs
def rng (f : Nat → γ → γ) (a : γ) : Nat → γ
  | 0 => a
  | n + 1 => f n (rng f a n)
theorem YL (k : Nat) (h : k < 4611686018427387904) : w64 ((k : Int) + 1) = ((k + 1 : Nat) : Int) := by rw [XV (by omega)]; omega
theorem Yy {k n : Nat} (h : k < n) : decide ((k : Int) < (n : Int)) = true := by simp; omega
theorem YH (n : Nat) : decide ((n : Int) < (n : Int)) = false := by simp
end
end Go.Gw

end
section
set_option maxRecDepth 4096
namespace Go.Gw
open Go

def Y4 : List Int → Int
  | [] => 0
  | x :: xs => if x = 0 then Y4 xs else x
theorem Qiv (l : List Int) (hl : l.length < 1073741824) : Yp l = some (Y4 l) := by
  unfold Yp
  rw [Z7 l (fun x => !decide (x = 0)) (fun _ x => x)]
  · have key : ∀ (l : List Int) k, (jn0 (XH (fun x => !decide (x = 0)) (fun _ x => x) k l) fun (_ : Unit) => some 0) = some (Y4 l) := by
      intro l
      induction l with
      | nil => intro k; rfl
      | cons x xs ih =>
        intro k
        by_cases h : x = 0
        · simp [XH, Y4, h]; exact ih _
        · simp [XH, Y4, h, jn0]
    simpa using key l 0
  · intro k hk
    unfold Qdq
    rw [Yy hk, XX hk, YL k (by omega)]; rfl
  · unfold Qdq
    rw [YH]; rfl
theorem Qaa (b : Bool) (e : Int) : Xs b e = some (bif b then 0 else e) := by cases b <;> rfl
theorem QJs (n lo hi : Int) : Y3 n lo hi = some (decide (lo ≤ n) && decide (n ≤ hi)) := rfl
theorem Qma (n lo hi : Int) : Jl n lo hi = some (decide (lo ≤ n) && decide (n ≤ hi)) := rfl
theorem Qul (n m : Int) (h : 0 ≤ m) (h2 : m ≤ 9223372036854775807) : Z3 n m = some (decide (-m ≤ n) && decide (n ≤ m)) := by
  unfold Z3
  rw [XV (by omega), QJs, Int.zero_sub]; rfl
theorem Qum {α : Type} (p : α → Bool) : ∀ (l : List α) (k : Nat), (jn0 (β := Int) (XH p (fun k _ => (k : Int)) k l) fun (_ : Unit) => some (-1)) = some (match XH p (fun k _ => (k : Int)) k l with | .inl i => i | .inr _ => -1)
  | l, k => by cases XH p (fun k _ => (k : Int)) k l <;> rfl
theorem Qks {α : Type} (p : α → Bool) : ∀ (l : List α) (k : Nat), decide (0 ≤ (match XH p (fun k _ => (k : Int)) k l with | .inl i => i | .inr _ => (-1 : Int))) = l.any p
  | [], k => by simp [XH]
  | x :: xs, k => by
    by_cases h : p x = true
    · simp [XH, h]
    · simp only [XH, h, List.any_cons]
      have := Qks p xs (k + 1)
      simpa [h] using this
theorem Qkr {α ρ : Type} {p : α → Bool} {res : Nat → α → ρ} : ∀ (l : List α) (k : Nat), (XH p res k l = .inr () ∧ l.any p = false) ∨ ∃ j x, XH p res k l = .inl (res j x) ∧ p x = true ∧ l.any p = true
  | [], k => .inl ⟨rfl, rfl⟩
  | x :: xs, k => by
    by_cases h : p x = true
    · exact .inr ⟨k, x, by simp [XH, h], h, by simp [h]⟩
    · rcases Qkr xs (k + 1) (p := p) (res := res) with ⟨h1, h2⟩ | ⟨j, y, h1, h2, h3⟩
      · exact .inl ⟨by simp [XH, h, h1], by simp [h, h2]⟩
      · exact .inr ⟨j, y, by simp [XH, h, h1], h2, by simp [h3]⟩
/-! ### Ladders -/
theorem Qxm (l : List Int) (hl : l.length < 1073741824) : Qbw l = some (l.any fun n => !(decide (-20000 ≤ n) && decide (n ≤ 20000))) := by
  unfold Qbw Qfl
  rw [Z7 l (fun n => !(decide (-20000 ≤ n) && decide (n ≤ 20000))) (fun k _ => (k : Int)), Option.bind_some, Qum, Option.bind_some, Qks]
  · intro k hk
    unfold Qfk Qdt
    rw [Yy hk, XX hk, YL k (by omega)]
    simp only [Option.bind_some, cond_true]
    rw [Qul _ _ (by omega) (by omega)]; rfl
  · unfold Qfk
    rw [YH]; rfl
theorem Qxn (l : List Int) (hl : l.length < 1073741824) : Qbv l = some (l.any fun n => !(decide (1 ≤ n) && decide (n ≤ 500))) := by
  unfold Qbv Qfj
  rw [Z7 l (fun n => !(decide (1 ≤ n) && decide (n ≤ 500))) (fun k _ => (k : Int)), Option.bind_some, Qum, Option.bind_some, Qks]
  · intro k hk
    unfold Qfi Qds
    rw [Yy hk, XX hk, YL k (by omega)]; rfl
  · unfold Qfi
    rw [YH]; rfl
def Qej (l : FeedLadder) : Bool := (l.Ohms.any fun n => !(decide (1 ≤ n) && decide (n ≤ 500))) || (l.Loads.any fun n => !(decide (-20000 ≤ n) && decide (n ≤ 20000)))
def YG (l : FeedLadder) : Int := if ¬ (0 < l.Loads.length ∧ l.Ohms.length = l.Loads.length + 1) then 10 else if 8 < l.Loads.length then 8 else if Qej l then 2 else 0
theorem Qrc (l : FeedLadder) (h1 : l.Ohms.length < 1000) (h2 : l.Loads.length < 1000) : JS l = some (YG l) := by
  unfold JS
  rw [Qxn _ (by omega), Qxm _ (by omega)]
  simp only [Option.bind_some, Qaa]
  rw [Qiv _ (by simp), XV (by omega)]
  simp only [Option.bind_some, Option.some.injEq]
  unfold YG Qej
  by_cases a : 0 < l.Loads.length ∧ l.Ohms.length = l.Loads.length + 1
  · rw [if_neg (by simpa using a)]
    have : (decide (0 < (l.Loads.length : Int)) && decide ((l.Ohms.length : Int) = (l.Loads.length : Int) + 1)) = true := by simp; omega
    rw [this]
    by_cases b : 8 < l.Loads.length
    · rw [if_pos b, decide_eq_false (show ¬ ((l.Loads.length : Int) ≤ 8) by omega)]; simp [Y4]
    · rw [if_neg b, decide_eq_true (show ((l.Loads.length : Int) ≤ 8) by omega)]
      cases (l.Ohms.any fun n => !(decide (1 ≤ n) && decide (n ≤ 500))) <;> cases (l.Loads.any fun n => !(decide (-20000 ≤ n) && decide (n ≤ 20000))) <;> simp [Y4]
  · rw [if_pos a]
    have : (decide (0 < (l.Loads.length : Int)) && decide ((l.Ohms.length : Int) = (l.Loads.length : Int) + 1)) = false := by
      rw [Bool.eq_false_iff]; intro h; simp at h; exact a (by omega)
    rw [this]; simp [Y4]
theorem Qju (l : FeedLadder) (h1 : l.Ohms.length < 1000) (h2 : l.Loads.length < 1000) : Ja l = some (YG l) := by
  unfold Ja
  rw [Z7 l.Ohms (fun n => !(decide (1 ≤ n) && decide (n ≤ 500))) (fun _ _ => (2 : Int)), Z7 l.Loads (fun n => !(decide (-20000 ≤ n) && decide (n ≤ 20000))) (fun _ _ => (2 : Int))]
  · rw [XV (by omega)]
    unfold YG Qej
    by_cases a : 0 < l.Loads.length ∧ l.Ohms.length = l.Loads.length + 1
    · rw [if_neg (by simpa using a)]
      have : (decide ((l.Loads.length : Int) = 0) || !decide ((l.Ohms.length : Int) = (l.Loads.length : Int) + 1)) = false := by
        rw [decide_eq_false (by omega), decide_eq_true (by omega)]; rfl
      rw [this, cond_false]
      by_cases b : 8 < l.Loads.length
      · rw [if_pos b, decide_eq_true (show 8 < (l.Loads.length : Int) by omega)]; rfl
      · rw [if_neg b, decide_eq_false (show ¬ 8 < (l.Loads.length : Int) by omega), cond_false]
        rcases Qkr (p := fun n => !(decide (1 ≤ n) && decide (n ≤ 500))) (res := fun _ _ => (2 : Int)) l.Ohms 0 with ⟨k1, k2⟩ | ⟨j, x, k1, k2, k3⟩
        · rw [k1, k2]
          rcases Qkr (p := fun n => !(decide (-20000 ≤ n) && decide (n ≤ 20000))) (res := fun _ _ => (2 : Int)) l.Loads 0 with ⟨k3, k4⟩ | ⟨j, x, k3, k4, k5⟩
          · rw [k3, k4]; rfl
          · rw [k3, k5]; rfl
        · rw [k1, k3]; rfl
    · rw [if_pos a]
      have : (decide ((l.Loads.length : Int) = 0) || !decide ((l.Ohms.length : Int) = (l.Loads.length : Int) + 1)) = true := by
        rcases Nat.eq_zero_or_pos l.Loads.length with h | h
        · rw [decide_eq_true (by omega)]; rfl
        · rw [decide_eq_false (p := (l.Ohms.length : Int) = (l.Loads.length : Int) + 1) (by omega)]; simp
      rw [this]; rfl
  · intro k hk
    unfold Qjy
    rw [Yy hk, XX hk, YL k (by omega)]; rfl
  · unfold Qjy
    rw [YH]; rfl
  · intro k hk
    unfold Qjx
    rw [Yy hk, XX hk, YL k (by omega)]; rfl
  · unfold Qjx
    rw [YH]; rfl
end Go.Gw

end
section
set_option maxRecDepth 4096
namespace Go.Gw
open Go
/-! ### The greatest common divisor -/
theorem Qqu (a b : Int) : ∃ x, loop JO (a, b) = some x ∧ ((a ≠ 0 ∨ b ≠ 0) → x ≠ 0) ∧ ∀ B : Nat, a.natAbs ≤ B → b.natAbs ≤ B → x.natAbs ≤ B := by
  have : Runs (loop JO (a, b)) (fun x => ((a ≠ 0 ∨ b ≠ 0) → x ≠ 0) ∧ ∀ B : Nat, a.natAbs ≤ B → b.natAbs ≤ B → x.natAbs ≤ B) := by
    refine Runs.loop (fun s => ((a ≠ 0 ∨ b ≠ 0) → s.1 ≠ 0 ∨ s.2 ≠ 0) ∧ ∀ B : Nat, a.natAbs ≤ B → b.natAbs ≤ B → s.1.natAbs ≤ B ∧ s.2.natAbs ≤ B) (fun s => s.2.natAbs) ⟨fun h => h, fun B h1 h2 => ⟨h1, h2⟩⟩ ?_
    rintro ⟨x, y⟩ ⟨h1, h2⟩
    unfold JO
    by_cases hy : y = 0
    · subst hy
      refine Runs.bif_f (by simp) (Runs.some ⟨fun h => (h1 h).resolve_right (fun h => h rfl), fun B ha hb => (h2 B ha hb).1⟩)
    · refine Runs.bif_t (by simp [hy]) ?_
      rw [Qbr hy]
      have hlt : (x.tmod y).natAbs < y.natAbs := by
        rw [Int.natAbs_tmod]; exact Nat.mod_lt _ (by omega)
      exact ⟨.inl (y, x.tmod y), rfl, ⟨fun _ => .inl hy, fun B ha hb => ⟨(h2 B ha hb).2, by have := (h2 B ha hb).2; show (x.tmod y).natAbs ≤ B; omega⟩⟩, hlt⟩
  exact this
theorem Qmn (a b : Int) : Zs a b = Ys a b := by
  unfold Zs Ys Qak
  rfl
theorem Qqt (a b : Int) : ∃ g, Ys a b = some g := by
  obtain ⟨x, h, _⟩ := Qqu a b
  unfold Ys
  rw [h]
  exact ⟨_, rfl⟩
theorem QCz {a b : Int} (hb : b ≠ 0) (h1 : a.natAbs ≤ 4611686018427387904) (h2 : b.natAbs ≤ 4611686018427387904) : ∃ g, Ys a b = some g ∧ 0 < g ∧ g ≤ 4611686018427387904 := by
  obtain ⟨x, h, h3, h4⟩ := Qqu a b
  have hx := h3 (.inr hb)
  have hB := h4 _ h1 h2
  unfold Ys Qak
  rw [h]
  refine ⟨_, rfl, ?_⟩
  rw [XV (by omega)]
  split <;> omega
noncomputable def Zv (n A : Int) : Frac := (Jk n A).getD default
theorem QDn {n A : Int} (hA : 0 < A) (hA2 : A ≤ 4611686018427387904) (hn : n.natAbs ≤ 4611686018427387904) : Jk n A = some (Zv n A) ∧ (Option.bind (Zs n A) fun g => Option.bind (quo n g) fun p => Option.bind (quo A g) fun q => some (Frac.mk p q)) = some (Zv n A) := by
  obtain ⟨g, hg, hg0, hg1⟩ := QCz (a := n) (b := A) (by omega) hn (by omega)
  have e : Jk n A = some (Frac.mk (w64 (n.tdiv g)) (w64 (A.tdiv g))) := by
    unfold Jk
    rw [hg, Option.bind_some, decide_eq_false (by omega), cond_false, ZN (by omega), Option.bind_some, ZN (by omega)]; rfl
  have e2 : Zv n A = Frac.mk (w64 (n.tdiv g)) (w64 (A.tdiv g)) := by unfold Zv; rw [e]; rfl
  refine ⟨by rw [e, e2], ?_⟩
  rw [Qmn, hg, Option.bind_some, ZN (by omega), Option.bind_some, ZN (by omega), Option.bind_some, e2]
/-! ### Sums -/
theorem Qfm {c : Int} (hc : 0 ≤ c) : ∀ {l : List Int}, (∀ x ∈ l, -c ≤ x ∧ x ≤ c) → -(c * l.length) ≤ l.sum ∧ l.sum ≤ c * l.length
  | [], _ => by simp
  | x :: l, h => by
    have h1 := h x (List.mem_cons_self ..)
    have h2 := Qfm hc (l := l) fun y hy => h y (List.mem_cons_of_mem _ hy)
    simp only [List.sum_cons, List.length_cons]
    have : c * ((l.length + 1 : Nat) : Int) = c * l.length + c := by rw [Int.natCast_add, Int.mul_add]; simp
    rw [this]
    omega
theorem JB {l : List Int} {k : Nat} (hk : k < l.length) : (l.take (k + 1)).sum = (l.take k).sum + l[k] := by
  rw [List.take_add_one, List.getElem?_eq_getElem hk, List.sum_append]
  simp
end Go.Gw

end
section
set_option maxRecDepth 4096
namespace Go.Gw
open Go
structure LadOk (l : FeedLadder) : Prop where
  pos : 0 < l.Loads.length
  most : l.Loads.length ≤ 8
  len : l.Ohms.length = l.Loads.length + 1
  ohm : ∀ x ∈ l.Ohms, 1 ≤ x ∧ x ≤ 500
  load : ∀ x ∈ l.Loads, -20000 ≤ x ∧ x ≤ 20000
theorem Qbe {l : FeedLadder} (h : YG l = 0) : LadOk l := by
  unfold YG at h
  split at h
  · cases h
  · rename_i h1
    have h1 := Classical.not_not.1 h1
    split at h
    · cases h
    · rename_i h2
      split at h
      · cases h
      · rename_i h3
        unfold Qej at h3
        simp only [Bool.or_eq_true, List.any_eq_true, not_or, not_exists, not_and] at h3
        refine ⟨h1.1, by omega, h1.2, fun x hx => ?_, fun x hx => ?_⟩
        · have := h3.1 x hx; simpa using this
        · have := h3.2 x hx; simpa using this
theorem Qbk {a b m n : Int} (ha : -m ≤ a ∧ a ≤ m) (hb : -n ≤ b ∧ b ≤ n) : -(m * n) ≤ a * b ∧ a * b ≤ m * n := by
  have h1 : a.natAbs ≤ m.natAbs := by omega
  have h2 : b.natAbs ≤ n.natAbs := by omega
  have h3 := Nat.mul_le_mul h1 h2
  rw [← Int.natAbs_mul, ← Int.natAbs_mul] at h3
  have h4 : 0 ≤ m * n := Int.mul_nonneg (by omega) (by omega)
  omega
def pk (l : FeedLadder) (k : Nat) : Int := (l.Loads.take k).sum
def lf (l : FeedLadder) : Nat → Int
  | 0 => 0
  | k + 1 => lf l k + l.Ohms.getD k 0 * pk l k
def rk (l : FeedLadder) : Nat → Int
  | 0 => 0
  | k + 1 => rk l k + l.Loads.getD k 0 * (l.Ohms.drop (k + 1)).sum
section
variable {l : FeedLadder} (h : LadOk l)
include h
theorem Qbq (k : Nat) : -160000 ≤ pk l k ∧ pk l k ≤ 160000 := by
  have := Qfm (c := 20000) (by omega) (l := l.Loads.take k) fun x hx => h.load x (List.mem_of_mem_take hx)
  have hl : (l.Loads.take k).length ≤ 8 := by have := h.most; rw [List.length_take]; omega
  unfold pk; omega
theorem Qjp (k : Nat) : 0 ≤ (l.Ohms.take k).sum ∧ (l.Ohms.take k).sum ≤ 4500 := by
  have key : ∀ (m : List Int), (∀ x ∈ m, 1 ≤ x ∧ x ≤ 500) → 0 ≤ m.sum := by
    intro m
    induction m with
    | nil => intro _; simp
    | cons x xs ih => intro hm; have := hm x (List.mem_cons_self ..); have := ih fun y hy => hm y (List.mem_cons_of_mem _ hy); simp only [List.sum_cons]; omega
  have := Qfm (c := 500) (by omega) (l := l.Ohms.take k) fun x hx => by have := h.ohm x (List.mem_of_mem_take hx); omega
  have hl : (l.Ohms.take k).length ≤ 9 := by have := h.most; have := h.len; rw [List.length_take]; omega
  exact ⟨key _ fun x hx => h.ohm x (List.mem_of_mem_take hx), by omega⟩
theorem og (k : Nat) : -500 ≤ l.Ohms.getD k 0 ∧ l.Ohms.getD k 0 ≤ 500 := by
  by_cases hk : k < l.Ohms.length
  · have := h.ohm _ (List.getElem_mem hk)
    simp only [List.getD, List.getElem?_eq_getElem hk, Option.getD_some]; omega
  · simp [List.getD, List.getElem?_eq_none (Nat.le_of_not_lt hk)]
theorem Qjb : ∀ k : Nat, -(80000000 * (k : Int)) ≤ lf l k ∧ lf l k ≤ 80000000 * (k : Int)
  | 0 => by simp [lf]
  | k + 1 => by
    have h1 := Qjb k
    have h2 := Qbk (og h k) (Qbq h k)
    simp only [lf]
    omega
end
noncomputable def XA (l : FeedLadder) (A L : Int) (n : Nat) : List Frac := (List.range n).map fun i => Zv (L - pk l i * A) A
theorem Qya (l : FeedLadder) (A L : Int) (n : Nat) : XA l A L n ++ [Zv (L - pk l n * A) A] = XA l A L (n + 1) := by
  unfold XA; rw [List.range_succ, List.map_append]; rfl
section
variable {l : FeedLadder} (h : LadOk l)
include h
theorem JH : 0 < l.Ohms.sum ∧ l.Ohms.sum ≤ 4500 := by
  have h1 := Qjp h l.Ohms.length
  rw [List.take_length] at h1
  cases ho : l.Ohms with
  | nil => have := h.len; rw [ho] at this; simp at this
  | cons x xs =>
    have hx := h.ohm x (by rw [ho]; simp)
    have key : ∀ (m : List Int), (∀ x ∈ m, 1 ≤ x ∧ x ≤ 500) → 0 ≤ m.sum := by
      intro m
      induction m with
      | nil => intro _; simp
      | cons x xs ih => intro hm; have := hm x (List.mem_cons_self ..); have := ih fun y hy => hm y (List.mem_cons_of_mem _ hy); simp only [List.sum_cons]; omega
    have := key xs fun y hy => h.ohm y (by rw [ho]; exact List.mem_cons_of_mem _ hy)
    rw [ho] at h1
    simp only [List.sum_cons] at h1 ⊢
    omega
theorem QDl (k : Nat) (L : Int) (hL : -800000000 ≤ L ∧ L ≤ 800000000) : w64 (pk l k * l.Ohms.sum) = pk l k * l.Ohms.sum ∧ w64 (L - pk l k * l.Ohms.sum) = L - pk l k * l.Ohms.sum ∧
    Jk (L - pk l k * l.Ohms.sum) l.Ohms.sum = some (Zv (L - pk l k * l.Ohms.sum) l.Ohms.sum) ∧
    (Option.bind (Zs (L - pk l k * l.Ohms.sum) l.Ohms.sum) fun g => Option.bind (quo (L - pk l k * l.Ohms.sum) g) fun p => Option.bind (quo l.Ohms.sum g) fun q => some (Frac.mk p q)) = some (Zv (L - pk l k * l.Ohms.sum) l.Ohms.sum) := by
  have hA := JH h
  have hp := Qbk (Qbq h k) (b := l.Ohms.sum) (n := 4500) (by omega)
  have := QDn (n := L - pk l k * l.Ohms.sum) hA.1 (by omega) (by omega)
  exact ⟨XV (by omega), XV (by omega), this.1, this.2⟩
theorem Qrd : JT l = some (XA l l.Ohms.sum (lf l l.Ohms.length) l.Ohms.length) := by
  have hlen := h.len
  have hmost := h.most
  have hL := Qjb h l.Ohms.length
  have k1 : loop (Qax l) (([] : List Int), 0, 0, 0, 0) = some ((List.range l.Ohms.length).map (pk l), l.Ohms.sum, lf l l.Ohms.length) :=
    Jr (fun k => ((List.range k).map (pk l), (l.Ohms.take k).sum, lf l k, pk l k, (k : Int))) l.Ohms.length (fun k hk => by
      have hb := Qjp h (k + 1)
      have e3 : l.Ohms.getD k 0 = l.Ohms[k] := by simp [List.getD, List.getElem?_eq_getElem hk]
      have hm := Qbk (og h k) (Qbq h k)
      have hlf := Qjb h k
      have hpk := Qbq h k
      rw [e3] at hm
      unfold Qax
      simp only [Yy hk, cond_true, XX hk, Option.bind_some]
      rw [Qcp (by simp; omega), Option.bind_some, show w64 ((l.Ohms.take k).sum + l.Ohms[k]) = (l.Ohms.take (k + 1)).sum by rw [JB hk] at hb ⊢; exact XV (by omega),
        XV (x := l.Ohms[k] * pk l k) (by omega), XV (x := lf l k + l.Ohms[k] * pk l k) (by omega), YL k (by omega)]
      have e5 : lf l k + l.Ohms[k] * pk l k = lf l (k + 1) := by simp only [lf, e3]
      rw [e5, show (List.range k).map (pk l) ++ [pk l k] = (List.range (k + 1)).map (pk l) by rw [List.range_succ, List.map_append]; rfl]
      by_cases hkl : k < l.Loads.length
      · rw [Yy hkl, cond_true, XX hkl, Option.bind_some]
        have e2 : pk l (k + 1) = pk l k + l.Loads[k] := JB hkl
        have hp2 := Qbq h (k + 1)
        rw [e2] at hp2
        rw [XV (by omega), ← e2]
      · rw [decide_eq_false (by omega), cond_false]
        have e2 : pk l (k + 1) = pk l k := by unfold pk; rw [List.take_of_length_le (by omega), List.take_of_length_le (by omega)]
        rw [e2]) (by
      unfold Qax
      simp only [YH, cond_false, List.take_length])
  have k2 : loop (Qay ((List.range l.Ohms.length).map (pk l)) l.Ohms.sum (lf l l.Ohms.length)) (([] : List Frac), 0) = some (XA l l.Ohms.sum (lf l l.Ohms.length) l.Ohms.length) :=
    Jr (fun k => (XA l l.Ohms.sum (lf l l.Ohms.length) k, (k : Int))) l.Ohms.length (fun k hk => by
      have hk' : k < ((List.range l.Ohms.length).map (pk l)).length := by simpa using hk
      obtain ⟨w1, w2, _, w4⟩ := QDl h k (lf l l.Ohms.length) (by omega)
      unfold Qay
      simp only [Yy hk', cond_true, XX hk', Option.bind_some, List.getElem_map, List.getElem_range, w1, w2]
      cases hd : Zs (lf l l.Ohms.length - pk l k * l.Ohms.sum) l.Ohms.sum with
      | none => rw [hd] at w4; cases w4
      | some g =>
        rw [hd] at w4
        simp only [Option.bind_some] at w4 ⊢
        cases hq : quo (lf l l.Ohms.length - pk l k * l.Ohms.sum) g with
        | none => rw [hq] at w4; cases w4
        | some p =>
          rw [hq] at w4
          simp only [Option.bind_some] at w4 ⊢
          cases hr : quo l.Ohms.sum g with
          | none => rw [hr] at w4; cases w4
          | some q =>
            rw [hr] at w4
            simp only [Option.bind_some, Option.some.injEq] at w4 ⊢
            rw [w4, Qcp (by simp [XA]; omega), Option.bind_some, Qya, YL k (by omega)]) (by
      have : ((List.range l.Ohms.length).map (pk l)).length = l.Ohms.length := by simp
      unfold Qay
      simp only [this, YH, cond_false])
  unfold JT
  rw [k1, Option.bind_some]
  simp only [k2, Option.bind_some]
end
end Go.Gw

end
section
set_option maxRecDepth 4096
namespace Go.Gw
open Go
theorem Qmx {α : Type} [DecidableEq α] : ∀ (a b : List α) (hl : a.length = b.length) (k : Nat), (jn0 (XH (fun (x : α × α) => !decide (x.1 = x.2)) (fun _ _ => false) k (a.zip b)) fun (_ : Unit) => some true) = some (decide (a = b))
  | [], [], _, k => by simp [XH, jn0]
  | [], _ :: _, hl, _ => by simp at hl
  | _ :: _, [], hl, _ => by simp at hl
  | x :: a, y :: b, hl, k => by
    by_cases hxy : x = y
    · subst hxy
      have := Qmx a b (by simpa using hl) (k + 1)
      simp only [List.zip_cons_cons, XH]
      simpa using this
    · simp [XH, hxy, jn0]
theorem Qvv {α : Type} {a b : List α} (hl : a.length = b.length) : (a.zip b).length = a.length := by simp [hl]
theorem Qyv (a b : List Frac) (ha : a.length < 1000000) : Qfh a b = some (decide (a = b)) := by
  unfold Qfh
  by_cases hl : a.length = b.length
  · rw [decide_eq_true (by omega), Bool.not_true, cond_false, Z7 (a.zip b) (fun x => !decide (x.1 = x.2)) (fun _ _ => false), Option.bind_some, Qmx a b hl]
    · intro k hk
      rw [Qvv hl] at hk
      unfold Qkk
      rw [Yy hk, cond_true, XX hk, Option.bind_some, XX (show k < b.length by omega), Option.bind_some, YL k (by omega)]
      simp only [List.getElem_zip]
    · rw [Qvv hl]
      unfold Qkk
      rw [YH]; rfl
  · rw [decide_eq_false (by omega)]
    simp only [Bool.not_false, cond_true]
    rw [decide_eq_false]
    intro e; exact hl (by rw [e])
noncomputable def Yo (f : Frac) : Int := if 0 < f.Den ∧ Ys f.Num f.Den = some 1 then (if -1000000000 ≤ f.Num ∧ f.Num ≤ 1000000000 ∧ f.Den ≤ 1000000000 then 0 else 2) else 3
theorem QDo (f : Frac) : Qct f = some (decide (0 < f.Den ∧ Ys f.Num f.Den = some 1)) := by
  unfold Qct
  by_cases hd : 0 < f.Den
  · rw [decide_eq_true hd, cond_true]
    obtain ⟨g, hg⟩ := Qqt f.Num f.Den
    rw [hg, Option.bind_some]
    simp [hd]
  · rw [decide_eq_false hd, cond_false, Option.bind_some]
    simp [hd]
noncomputable def Yx : List Frac → Int
  | [] => 0
  | f :: l => if Yo f = 0 then Yx l else Yo f
theorem Qmm (l : List Frac) (k : Nat) (f : Option Int) : (jn0 (XH (fun f => !decide (Yo f = 0)) (fun _ f => Yo f) k l) fun (_ : Unit) => f) = if Yx l = 0 then f else some (Yx l) := by
  induction l generalizing k with
  | nil => simp [XH, jn0, Yx]
  | cons x xs ih =>
    by_cases h : Yo x = 0
    · simp [XH, Yx, h]; exact ih _
    · simp [XH, Yx, h, jn0]
theorem Qxz (cs : List Frac) (k : Nat) (hk : k < cs.length) (hl : cs.length < 1000000) : Qfa cs (k : Int) = (bif !decide (Yo cs[k] = 0) then some (.inr (.inl (Yo cs[k]))) else some (.inl ((k + 1 : Nat) : Int))) := by
  unfold Qfa
  rw [Yy hk, cond_true, XX hk, Option.bind_some, QDo, Option.bind_some]
  unfold Qgq
  simp only [Qma, Option.bind_some, YL k (by omega)]
  unfold Yo
  by_cases h1 : 0 < cs[k].Den ∧ Ys cs[k].Num cs[k].Den = some 1
  · rw [if_pos h1, decide_eq_true h1]
    by_cases h2 : -1000000000 ≤ cs[k].Num ∧ cs[k].Num ≤ 1000000000
    · have : (decide (-1000000000 ≤ cs[k].Num) && decide (cs[k].Num ≤ 1000000000)) = true := by simp [h2]
      simp only [this, cond_true, Option.bind_some, Bool.true_and, Bool.not_true, cond_false]
      by_cases h3 : cs[k].Den ≤ 1000000000
      · have : (decide (1 ≤ cs[k].Den) && decide (cs[k].Den ≤ 1000000000)) = true := by simp [h3]; omega
        rw [this, if_pos ⟨h2.1, h2.2, h3⟩]; rfl
      · have : (decide (1 ≤ cs[k].Den) && decide (cs[k].Den ≤ 1000000000)) = false := by simp [h3]
        rw [this, if_neg (fun h => h3 h.2.2)]; rfl
    · have : (decide (-1000000000 ≤ cs[k].Num) && decide (cs[k].Num ≤ 1000000000)) = false := by
        rw [Bool.eq_false_iff]; simpa using h2
      simp only [this, cond_false, Option.bind_some, Bool.false_and, Bool.not_true, Bool.not_false, cond_true]
      rw [if_neg (fun h => h2 ⟨h.1, h.2.1⟩)]; rfl
  · rw [if_neg h1, decide_eq_false h1]; rfl
theorem Qjt (l : FeedLadder) (cs : List Frac) (hl : cs.length < 1000000) : J4 l cs = some (if cs.length ≠ l.Ohms.length then 10 else Yx cs) := by
  unfold J4
  by_cases h : cs.length = l.Ohms.length
  · rw [decide_eq_true (by omega), Bool.not_true, cond_false, Z7 cs (fun f => !decide (Yo f = 0)) (fun _ f => Yo f), Option.bind_some, Qmm, if_neg (show ¬ cs.length ≠ l.Ohms.length by simpa using h)]
    · by_cases h0 : Yx cs = 0
      · rw [if_pos h0, h0]
      · rw [if_neg h0]
    · intro k hk; exact Qxz cs k hk hl
    · unfold Qfa
      rw [YH]; rfl
  · rw [decide_eq_false (by omega), if_pos h]; rfl
theorem Qxy (cs : List Frac) (k : Nat) (hk : k < cs.length) (hl : cs.length < 1000000) : Qdm cs (k : Int) = (bif !decide (Yo cs[k] = 0) then some (.inr (.inl (Yo cs[k]))) else some (.inl ((k + 1 : Nat) : Int))) := by
  unfold Qdm
  rw [Yy hk, cond_true, XX hk, Option.bind_some]
  have e1 : (Option.bind (bif decide (0 < cs[k].Den) then Zs cs[k].Num cs[k].Den else some default) fun r569 => Xs ((decide (0 < cs[k].Den)) && (decide (r569 = 1))) 3) = some (if 0 < cs[k].Den ∧ Ys cs[k].Num cs[k].Den = some 1 then 0 else 3) := by
    by_cases hd : 0 < cs[k].Den
    · rw [decide_eq_true hd, cond_true, Qmn]
      obtain ⟨g, hg⟩ := Qqt cs[k].Num cs[k].Den
      rw [hg, Option.bind_some, Qaa]
      by_cases h1 : g = 1
      · subst h1; simp [hd]
      · simp [hd, h1]
    · rw [decide_eq_false hd, cond_false, Option.bind_some, Qaa]
      simp [hd]
  have e2 : ∀ r, (Option.bind (Z3 cs[k].Num 1000000000) fun r616 => Xs (r616 && (decide (cs[k].Den ≤ 1000000000))) r) = some (if -1000000000 ≤ cs[k].Num ∧ cs[k].Num ≤ 1000000000 ∧ cs[k].Den ≤ 1000000000 then 0 else r) := fun r => by
    rw [Qul _ _ (by omega) (by omega), Option.bind_some, Qaa]
    by_cases h : -1000000000 ≤ cs[k].Num ∧ cs[k].Num ≤ 1000000000 ∧ cs[k].Den ≤ 1000000000
    · rw [if_pos h]; simp [h]
    · rw [if_neg h]
      have : (decide (-1000000000 ≤ cs[k].Num) && decide (cs[k].Num ≤ 1000000000) && decide (cs[k].Den ≤ 1000000000)) = false := by
        rw [Bool.eq_false_iff]; simp; intro a b; exact Classical.byContradiction fun hc => h ⟨a, b, by omega⟩
      rw [this]; rfl
  rw [← Option.bind_assoc, e1, Option.bind_some, ← Option.bind_assoc, e2, Option.bind_some, Qiv _ (by simp), Option.bind_some, YL k (by omega)]
  unfold Yo
  by_cases h1 : 0 < cs[k].Den ∧ Ys cs[k].Num cs[k].Den = some 1
  · rw [if_pos h1, if_pos h1]
    split <;> simp [Y4]
  · rw [if_neg h1, if_neg h1]
    split <;> simp [Y4]
theorem Qxq (l : FeedLadder) (cs : List Frac) (h1 : l.Ohms.length < 1000) (h2 : l.Loads.length < 1000) (hl : cs.length < 1000000) :
    Qav l cs = some (if YG l ≠ 0 then YG l else if cs.length ≠ l.Ohms.length then 10 else if Yx cs ≠ 0 then Yx cs else if cs = XA l l.Ohms.sum (lf l l.Ohms.length) l.Ohms.length then 0 else 20) := by
  unfold Qav
  rw [Qrc l h1 h2, Option.bind_some, Qaa, Option.bind_some, Qiv _ (by simp), Option.bind_some]
  by_cases a : YG l = 0
  · rw [if_neg (by simpa using a), a]
    by_cases b : cs.length = l.Ohms.length
    · rw [if_neg (by simpa using b), decide_eq_true (show (cs.length : Int) = l.Ohms.length by omega)]
      simp only [Y4, cond_true, if_true, decide_true, Bool.not_true, cond_false]
      rw [Z7 cs (fun f => !decide (Yo f = 0)) (fun _ f => Yo f), Option.bind_some, Qmm, Qrd (Qbe a)]
      · by_cases c0 : Yx cs = 0
        · rw [if_pos c0, if_neg (by simpa using c0), Option.bind_some, Qyv _ _ hl, Option.bind_some, Qaa, Option.bind_some]
          by_cases d0 : cs = XA l l.Ohms.sum (lf l l.Ohms.length) l.Ohms.length
          · rw [if_pos d0, decide_eq_true d0]; rfl
          · rw [if_neg d0, decide_eq_false d0]; rfl
        · rw [if_neg c0, if_pos c0]
      · intro k hk; exact Qxy cs k hk hl
      · unfold Qdm
        rw [YH]; rfl
    · rw [if_pos b, decide_eq_false (show ¬ (cs.length : Int) = l.Ohms.length by omega)]
      simp [Y4]
  · rw [if_pos a]
    simp [Y4, a]
theorem Qhb (l : FeedLadder) (h1 : l.Ohms.length < 1000) (h2 : l.Loads.length < 1000) : ZO l = some l := by
  unfold ZO ZK
  rw [Qgl (by simp; omega), Qgl (by simp; omega)]; rfl
theorem Qiz (l : FeedLadder) (h1 : l.Ohms.length < 1000) (h2 : l.Loads.length < 1000) : Z1 l = some (if YG l = 0 then (XA l l.Ohms.sum (lf l l.Ohms.length) l.Ohms.length, 0) else ([], YG l)) := by
  unfold Z1
  rw [Qrc l h1 h2, Option.bind_some]
  by_cases a : YG l = 0
  · rw [if_pos a, a, Qrd (Qbe a)]; rfl
  · rw [if_neg a, decide_eq_false a]; rfl
end Go.Gw

end
section
set_option maxRecDepth 4096
namespace Go.Gw
open Go
theorem Qqs {a b : Int} (h1 : a.natAbs ≤ 4611686018427387904) (h2 : b.natAbs ≤ 4611686018427387904) : Ys a b = some ((Int.gcd a b : Nat) : Int) := by
  have : Runs (loop JO (a, b)) (fun x => x.natAbs = Int.gcd a b ∧ x.natAbs ≤ 4611686018427387904) := by
    refine Runs.loop (fun s => Int.gcd s.1 s.2 = Int.gcd a b ∧ s.1.natAbs ≤ 4611686018427387904 ∧ s.2.natAbs ≤ 4611686018427387904) (fun s => s.2.natAbs) ⟨rfl, h1, h2⟩ ?_
    rintro ⟨x, y⟩ ⟨e1, e2, e3⟩
    unfold JO
    by_cases hy : y = 0
    · subst hy
      refine Runs.bif_f (by simp) (Runs.some ⟨?_, e2⟩)
      rw [← e1]; simp
    · refine Runs.bif_t (by simp [hy]) ?_
      rw [Qbr hy]
      have hlt : (x.tmod y).natAbs < y.natAbs := by
        rw [Int.natAbs_tmod]; exact Nat.mod_lt _ (by omega)
      have hg : Int.gcd y (x.tmod y) = Int.gcd a b := by
        rw [← e1]
        unfold Int.gcd
        rw [Int.natAbs_tmod, Nat.gcd_comm y.natAbs, ← Nat.gcd_rec, Nat.gcd_comm]
      exact ⟨.inl (y, x.tmod y), rfl, ⟨hg, e3, by show (x.tmod y).natAbs ≤ 4611686018427387904; simp only at e3; omega⟩, hlt⟩
  obtain ⟨x, hx, h3, h4⟩ := this
  unfold Ys Qak
  rw [hx]
  simp only [Option.bind_some]
  rw [XV (by omega)]
  congr 1
  rw [← h3]
  split <;> omega
theorem QDm {n A : Int} (hA : 0 < A) (hA2 : A ≤ 4611686018427387904) (hn : n.natAbs ≤ 4611686018427387904) : ∃ g n' A' : Int, 0 < g ∧ n = n' * g ∧ A = A' * g ∧ Zv n A = Frac.mk n' A' ∧ 0 < A' ∧ Ys n' A' = some 1 := by
  have hg := Qqs (a := n) (b := A) hn (by omega)
  obtain ⟨n', hn'⟩ := Int.gcd_dvd_left n A
  obtain ⟨A', hA'⟩ := Int.gcd_dvd_right n A
  have hgp : 0 < Int.gcd n A := Int.gcd_pos_of_ne_zero_right _ (by omega)
  have hgi : (0 : Int) < (Int.gcd n A : Int) := by omega
  generalize hG : Int.gcd n A = G at *
  have hA0 : 0 < A' := by
    rcases Int.lt_or_le 0 A' with h | h
    · exact h
    · have := Int.mul_nonpos_of_nonneg_of_nonpos (show (0 : Int) ≤ (G : Int) by omega) h; omega
  have hle : A' ≤ A := by
    have := Int.mul_le_mul_of_nonneg_right (show (1 : Int) ≤ (G : Int) by omega) (show 0 ≤ A' by omega)
    rw [hA']; omega
  have hnl : n'.natAbs ≤ n.natAbs := by
    rw [hn', Int.natAbs_mul]
    exact Nat.le_mul_of_pos_left _ (by omega)
  have e : Jk n A = some (Frac.mk n' A') := by
    unfold Jk
    rw [hg, Option.bind_some, decide_eq_false (by omega), cond_false, ZN (by omega), Option.bind_some, ZN (by omega), Option.bind_some]
    congr 2
    · rw [hn', Int.mul_tdiv_cancel_left _ (by omega)]; exact XV (by omega)
    · rw [hA', Int.mul_tdiv_cancel_left _ (by omega)]; exact XV (by omega)
  refine ⟨G, n', A', hgi, by rw [hn', Int.mul_comm], by rw [hA', Int.mul_comm], by unfold Zv; rw [e]; rfl, hA0, ?_⟩
  rw [Qqs (by omega) (by omega)]
  have h1 : Int.gcd ((G : Int) * n') ((G : Int) * A') = (G : Int).natAbs * Int.gcd n' A' := Int.gcd_mul_left ..
  rw [← hn', ← hA', hG] at h1
  have h2 : Int.gcd n' A' = 1 := by
    have h3 : G * 1 = G * Int.gcd n' A' := by simpa using h1
    exact (Nat.eq_of_mul_eq_mul_left hgp h3).symm
  rw [h2]; rfl
def nn (l : FeedLadder) (k : Nat) : Int := lf l l.Ohms.length - pk l k * l.Ohms.sum
theorem Qey (l : FeedLadder) (k : Nat) : pk l (k + 1) = pk l k + l.Loads.getD k 0 := by
  unfold pk
  by_cases hk : k < l.Loads.length
  · rw [JB hk]; simp [List.getD, List.getElem?_eq_getElem hk]
  · rw [List.take_of_length_le (by omega), List.take_of_length_le (by omega)]
    simp [List.getD, List.getElem?_eq_none (Nat.le_of_not_lt hk)]
theorem Qbj (l : FeedLadder) (k : Nat) : lf l (k + 1) = lf l k + l.Ohms.getD k 0 * pk l k := rfl
theorem JR (l : FeedLadder) : (XA l l.Ohms.sum (lf l l.Ohms.length) l.Ohms.length).length = l.Ohms.length := by unfold XA; simp
section
variable {l : FeedLadder} (h : LadOk l)
include h
theorem QFy (i k : Nat) : -160000 ≤ pk l i - pk l k ∧ pk l i - pk l k ≤ 160000 := by
  have key : ∀ i k : Nat, i ≤ k → -160000 ≤ pk l k - pk l i ∧ pk l k - pk l i ≤ 160000 := by
    intro i k hik
    have e : pk l k = pk l i + ((l.Loads.take k).drop i).sum := by
      unfold pk
      have := congrArg List.sum (List.take_append_drop i (l.Loads.take k))
      rw [List.sum_append, List.take_take, Nat.min_eq_left hik] at this
      exact this.symm
    have hb := Qfm (c := 20000) (by omega) (l := (l.Loads.take k).drop i) fun x hx => h.load x (List.mem_of_mem_take (List.mem_of_mem_drop hx))
    have hl : ((l.Loads.take k).drop i).length ≤ 8 := by have := h.most; rw [List.length_drop, List.length_take]; omega
    omega
  rcases Nat.le_total i k with hk | hk
  · have := key i k hk; omega
  · exact key k i hk
theorem Z9 (k : Nat) : -720000000 ≤ nn l k ∧ nn l k ≤ 720000000 := by
  have key : ∀ m, m ≤ l.Ohms.length → -(160000 * (l.Ohms.take m).sum) ≤ lf l m - pk l k * (l.Ohms.take m).sum ∧ lf l m - pk l k * (l.Ohms.take m).sum ≤ 160000 * (l.Ohms.take m).sum := by
    intro m
    induction m with
    | zero => intro _; simp [lf]
    | succ m ih =>
      intro hm
      have h1 := ih (by omega)
      have ho := h.ohm _ (List.getElem_mem (show m < l.Ohms.length by omega))
      have hd := QFy h m k
      rw [JB (show m < l.Ohms.length by omega), Qbj, List.getD, List.getElem?_eq_getElem (show m < l.Ohms.length by omega), Option.getD_some, Int.mul_add, Int.mul_add]
      have h2 : l.Ohms[m] * pk l m - pk l k * l.Ohms[m] = l.Ohms[m] * (pk l m - pk l k) := by rw [Int.mul_sub, Int.mul_comm (pk l k)]
      have h3 := Int.mul_le_mul_of_nonneg_left hd.2 (show 0 ≤ l.Ohms[m] by omega)
      have h4 := Int.mul_le_mul_of_nonneg_left hd.1 (show 0 ≤ l.Ohms[m] by omega)
      omega
  have h1 := key l.Ohms.length (Nat.le_refl _)
  rw [List.take_length] at h1
  have hA := JH h
  unfold nn
  omega
theorem Qdh {k : Nat} (hk : k < l.Ohms.length) : ∃ g n' A' : Int, 0 < g ∧ nn l k = n' * g ∧ l.Ohms.sum = A' * g ∧ (XA l l.Ohms.sum (lf l l.Ohms.length) l.Ohms.length)[k]? = some (Frac.mk n' A') ∧ 0 < A' ∧ Yo (Frac.mk n' A') = 0 ∧ -720000000 ≤ n' ∧ n' ≤ 720000000 := by
  have hA := JH h
  have hb := Z9 h k
  obtain ⟨g, n', A', h1, h2, h3, h4, h5, h6⟩ := QDm (n := nn l k) hA.1 (by omega) (by omega)
  have hAl : A' ≤ l.Ohms.sum := by
    have := Int.mul_le_mul_of_nonneg_left (show (1 : Int) ≤ g by omega) (show 0 ≤ A' by omega)
    omega
  have hnl : n'.natAbs ≤ (nn l k).natAbs := by
    rw [h2, Int.natAbs_mul]; exact Nat.le_mul_of_pos_right _ (by omega)
  refine ⟨g, n', A', h1, h2, h3, ?_, h5, ?_, by omega, by omega⟩
  · unfold XA
    rw [List.getElem?_map, List.getElem?_range hk]
    simp only [Option.map_some]
    rw [show lf l l.Ohms.length - pk l k * l.Ohms.sum = nn l k from rfl, h4]
  · unfold Yo
    rw [if_pos ⟨h5, h6⟩, if_pos (by simp only []; omega)]
theorem Qhc : Yx (XA l l.Ohms.sum (lf l l.Ohms.length) l.Ohms.length) = 0 := by
  have key : ∀ (cs : List Frac), (∀ f ∈ cs, Yo f = 0) → Yx cs = 0 := by
    intro cs
    induction cs with
    | nil => intro _; rfl
    | cons f cs ih => intro hf; unfold Yx; rw [if_pos (hf f (List.mem_cons_self ..))]; exact ih fun x hx => hf x (List.mem_cons_of_mem _ hx)
  refine key _ fun f hf => ?_
  obtain ⟨k, hk, rfl⟩ := List.mem_iff_getElem.1 hf
  rw [JR l] at hk
  obtain ⟨g, n', A', _, _, _, h4, _, h6, _⟩ := Qdh h hk
  have := List.getElem?_eq_some_iff.1 h4
  rw [this.2]; exact h6
end
def ar (l : FeedLadder) : Nat → Int
  | 0 => 0
  | k + 1 => ar l k + nn l k * l.Ohms.getD k 0
theorem Qgn (l : FeedLadder) (k : Nat) : ar l (k + 1) = ar l k + nn l k * l.Ohms.getD k 0 := rfl
theorem Qlm (l : FeedLadder) : ∀ k, k ≤ l.Ohms.length → ar l k = lf l l.Ohms.length * (l.Ohms.take k).sum - l.Ohms.sum * lf l k
  | 0, _ => by simp [ar, lf]
  | k + 1, hk => by
    rw [Qgn, Qlm l k (by omega), JB (show k < l.Ohms.length by omega), Qbj, List.getD, List.getElem?_eq_getElem (show k < l.Ohms.length by omega), Option.getD_some]
    unfold nn
    rw [Int.sub_mul, Int.mul_add, Int.mul_add]
    have e : pk l k * l.Ohms.sum * l.Ohms[k] = l.Ohms.sum * (l.Ohms[k] * pk l k) := by rw [Int.mul_comm (pk l k), Int.mul_assoc, Int.mul_comm (pk l k)]
    rw [e]; omega
theorem Qwp (l : FeedLadder) : ar l l.Ohms.length = 0 := by
  rw [Qlm l _ (Nat.le_refl _), List.take_length, Int.mul_comm]; omega
theorem QFl (l : FeedLadder) (k : Nat) : nn l k - nn l (k + 1) = l.Loads.getD k 0 * l.Ohms.sum := by
  unfold nn
  rw [Qey, Int.add_mul]; omega
theorem Qll {l : FeedLadder} (h : LadOk l) : ∀ k : Nat, -(360000000000 * (k : Int)) ≤ ar l k ∧ ar l k ≤ 360000000000 * (k : Int)
  | 0 => by simp [ar]
  | k + 1 => by
    have h1 := Qll h k
    have h2 := Qbk (Z9 h k) (og h k)
    rw [Qgn]; omega
/-! ### Two kinds of loads -/
def XD (a b : List Int) : List Int := (List.range a.length).map fun i => a.getD i 0 + b.getD i 0
theorem Qwh (a b : List Int) (hl : a.length = b.length) (k : Nat) : (XD a b).getD k 0 = a.getD k 0 + b.getD k 0 := by
  unfold XD
  by_cases hk : k < a.length
  · simp [List.getD, hk]
  · have hk2 : ¬ k < b.length := by omega
    simp [List.getD, List.getElem?_eq_none (Nat.le_of_not_lt hk), List.getElem?_eq_none (Nat.le_of_not_lt hk2), hk]
theorem QDk (a : List Int) : a = (List.range a.length).map fun i => a.getD i 0 := by
  apply List.ext_getElem?
  intro i
  by_cases hi : i < a.length
  · simp [List.getD, List.getElem?_eq_getElem hi, hi]
  · simp [List.getElem?_eq_none (Nat.le_of_not_lt hi), hi]
theorem Qjs (o a b : List Int) (hl : a.length = b.length) : ∀ k, pk (FeedLadder.mk o (XD a b)) k = pk (FeedLadder.mk o a) k + pk (FeedLadder.mk o b) k
  | 0 => rfl
  | k + 1 => by rw [Qey, Qey, Qey, Qjs o a b hl k]; simp only []; rw [Qwh a b hl]; omega
theorem Qrf (o a b : List Int) (hl : a.length = b.length) : ∀ k, lf (FeedLadder.mk o (XD a b)) k = lf (FeedLadder.mk o a) k + lf (FeedLadder.mk o b) k
  | 0 => rfl
  | k + 1 => by rw [Qbj, Qbj, Qbj, Qrf o a b hl k, Qjs o a b hl k, Int.mul_add]; simp only []; omega
theorem QFk (o a b : List Int) (hl : a.length = b.length) (k : Nat) : nn (FeedLadder.mk o (XD a b)) k = nn (FeedLadder.mk o a) k + nn (FeedLadder.mk o b) k := by
  unfold nn
  simp only []
  rw [Qrf o a b hl, Qjs o a b hl, Int.add_mul]; omega
end Go.Gw

end
section
set_option maxRecDepth 4096
namespace Go.Gw
open Go
def Qef (f : Nat → Int) (n : Nat) : Option Nat := (List.range n).find? fun i => decide (f i ≠ 0)
/-! ### Names -/
def Qwv (q : Int × Nat) : Bool := (!(((decide (97 ≤ q.1)) && (decide (q.1 ≤ 122))) || ((decide (65 ≤ q.1)) && (decide (q.1 ≤ 90))))) && ((decide ((q.2 : Int) = 0)) || ((!decide (q.1 = 45)) && ((decide (q.1 < 48)) || (decide (57 < q.1)))))
def bi (s : ByteArray) : List Int := bl s
def QDy (s : ByteArray) : Bool := decide (1 ≤ s.size) && (decide (s.size ≤ 12) && !((bi s).zipIdx.any Qwv))
def Qeq (s : ByteArray) (others : List ByteArray) : Int := if QDy s = false then 4 else if (others.any fun x => decide (s = x)) = true then 5 else 0
end Go.Gw

end
section
set_option maxRecDepth 4096
namespace Go.Gw
open Go
def QGo (l r il ir eq sh lo s0 s1 : Bool) : Int := bif (!(l || il)) || !(r || ir) then 6 else bif l && r then 23 else bif eq then 26 else bif !(sh && lo) then 2 else bif (l && !s0) || (r && !s1) then 3 else 0
def Qte (s : FeedSection) (n : Nat) : Int := QGo (decide (s.Left = -1)) (decide (s.Right = -1)) (decide (0 ≤ s.Left) && decide (s.Left ≤ (n : Int) - 1)) (decide (0 ≤ s.Right) && decide (s.Right ≤ (n : Int) - 1)) (decide (s.Left = s.Right))
  (decide (0 ≤ s.Share) && decide (s.Share ≤ 1000)) (decide (0 ≤ s.Loss) && decide (s.Loss ≤ 500)) (decide (s.Share = 0)) (decide (s.Share = 1000))
def Qup (s : FeedStep) (n : Nat) : Int := bif !(decide (0 ≤ s.Section) && decide (s.Section ≤ (n : Int) - 1)) then 6 else bif !(decide (-20000 ≤ s.Power) && decide (s.Power ≤ 20000)) then 2 else 0
def QIh (l : List FeedStep) (n : Nat) : Int := match Qef (fun i => (l[i]?.map (Qup · n)).getD 0) l.length with | some i => (l[i]?.map (Qup · n)).getD 0 | none => 0
def QJg (e1 e2 : Bool) (o : Bool) (z : Bool) (m : Bool) (st : Int) : Int := bif !(e1 && e2) then 2 else bif !o then 9 else bif !z then 10 else bif !m then 8 else st
def Qvh (t : FeedTrain) (n : Nat) : Int := QJg (decide (0 ≤ t.Earliest) && decide (t.Earliest ≤ 1000)) (decide (0 ≤ t.Latest) && decide (t.Latest ≤ 1000)) (decide (t.Earliest ≤ t.Latest)) (decide (0 < (t.Steps.length : Int))) (decide ((t.Steps.length : Int) ≤ 12)) (QIh t.Steps n)
end Go.Gw

end
section
set_option maxRecDepth 4096
namespace Go.Gw
open Go
def stE (s : FeedStation) (others : List ByteArray) : Int := if Qeq s.Name others ≠ 0 then Qeq s.Name others else bif !(decide (0 ≤ s.Limit) && decide (s.Limit ≤ 100000)) then 2 else 0
def Qun (n : FeedNet) (i : Nat) : Int := (n.Stations[i]?.map fun s => stE s ((n.Stations.take i).map (·.Name))).getD 0
def Qtd (n : FeedNet) (i : Nat) : Int := (n.Sections[i]?.map fun s => Qte s n.Stations.length).getD 0
def trE (t : FeedTrain) (others : List ByteArray) (n : Nat) : Int := if Qeq t.Name others ≠ 0 then Qeq t.Name others else Qvh t n
def Qvg (n : FeedNet) (i : Nat) : Int := (n.Trains[i]?.map fun t => trE t ((n.Trains.take i).map (·.Name)) n.Sections.length).getD 0
def QLc (n : FeedNet) : FeedMark × Int :=
  if n.Stations.length = 0 ∨ n.Sections.length = 0 then (FeedMark.mk 0 0, 10) else if 6 < n.Stations.length ∨ 10 < n.Sections.length ∨ 6 < n.Trains.length then (FeedMark.mk 0 0, 8) else
  match Qef (Qun n) n.Stations.length with
  | some i => (FeedMark.mk 1 i, Qun n i)
  | none => match Qef (Qtd n) n.Sections.length with
    | some i => (FeedMark.mk 2 i, Qtd n i)
    | none => match Qef (Qvg n) n.Trains.length with
      | some i => (FeedMark.mk 3 i, Qvg n i)
      | none => (FeedMark.mk 0 0, 0)
structure NetS (n : FeedNet) : Prop where
  st : n.Stations.length < 1000
  se : n.Sections.length < 1000
  tr : n.Trains.length < 1000
  sn : ∀ s ∈ n.Stations, s.Name.size ≤ 1000
  tn : ∀ t ∈ n.Trains, t.Name.size ≤ 1000 ∧ t.Steps.length < 1000
section
variable {n : FeedNet} (h : NetS n)
include h
end
end Go.Gw

end
section
set_option maxRecDepth 4096
namespace Go.Gw
open Go
def trI (n : FeedNet) (s : ByteArray) : Int := match XH (fun t : FeedTrain => decide (t.Name = s)) (fun k _ => (k : Int)) 0 n.Trains with | .inl i => i | .inr _ => -1
section
variable {n : FeedNet} (h : NetS n)
include h
end
end Go.Gw

end
section
set_option maxRecDepth 4096
namespace Go.Gw
open Go
def QKz (n : FeedNet) : Bool := !(decide (8 < n.Stations.length) || decide (12 < n.Sections.length) || decide (8 < n.Trains.length)) && !(n.Stations.any fun s => decide (20 < (s.Name.size : Int))) && !(n.Trains.any fun t => decide (20 < (t.Name.size : Int)) || decide (14 < (t.Steps.length : Int)))
def QLf (l : List FeedDeparture) : Bool := !(decide (8 < l.length)) && !(l.any fun d => decide (20 < (d.Train.size : Int)))
end Go.Gw

end
section
set_option maxRecDepth 4096
namespace Go.Gw
open Go
def Qyb (n : FeedNet) (d : FeedDeparture) (others : List FeedDeparture) : Int := if trI n d.Train < 0 then 6 else if (others.any fun o => decide (o.Train = d.Train)) = true then 26 else bif !(decide (0 ≤ d.At) && decide (d.At ≤ 1000)) then 2 else 0
def QKy (n : FeedNet) (l : List FeedDeparture) (i : Nat) : Int := (l[i]?.map fun d => Qyb n d (l.take i)).getD 0
def QLe (n : FeedNet) (d : FeedDeparture) : feed_run := feed_run.mk (n.Trains[(trI n d.Train).toNat]?.getD default) d.At
end Go.Gw

end
section
set_option maxRecDepth 4096
namespace Go.Gw
open Go
def Qyc (st : List FeedStep) (k : Int) (s : Nat) : Int := if 0 ≤ k ∧ k ≤ (st.length : Int) - 1 then (match st[k.toNat]? with | some x => if x.Section = (s : Int) then x.Power else 0 | none => 0) else 0
def pwr (l : List feed_run) (t : Int) (s : Nat) : Int := (l.map fun r => Qyc r.FeedTrain.Steps (t - r.at_) s).sum
def QKu (m : Nat) (r : feed_run) : Prop := (∀ x ∈ r.FeedTrain.Steps, 0 ≤ x.Section ∧ x.Section ≤ (m : Int) - 1 ∧ -20000 ≤ x.Power ∧ x.Power ≤ 20000) ∧ r.FeedTrain.Steps.length ≤ 12 ∧ 0 ≤ r.at_ ∧ r.at_ ≤ 1000
end Go.Gw

end
section
set_option maxRecDepth 4096
namespace Go.Gw
open Go
structure NetOk (n : FeedNet) : Prop where
  st0 : 0 < n.Stations.length
  st6 : n.Stations.length ≤ 6
  se0 : 0 < n.Sections.length
  se10 : n.Sections.length ≤ 10
  tr6 : n.Trains.length ≤ 6
  lim : ∀ s ∈ n.Stations, 0 ≤ s.Limit ∧ s.Limit ≤ 100000
  sec : ∀ s ∈ n.Sections, Qte s n.Stations.length = 0
  tr : ∀ t ∈ n.Trains, Qvh t n.Sections.length = 0
end Go.Gw

end
section
set_option maxRecDepth 4096
namespace Go.Gw
open Go
def Qyd (s : FeedSection) (p : Int) : Int := if p < 0 then p * (1000 - s.Loss) else p * (1000 + s.Loss)
def QGu (s : FeedSection) (k : Int) : Int := if s.Left = k then s.Share else if s.Right = k then 1000 - s.Share else 0
def Qvx (s : FeedSection) : Prop := (0 ≤ s.Share ∧ s.Share ≤ 1000) ∧ 0 ≤ s.Loss ∧ s.Loss ≤ 500
end Go.Gw

end
section
set_option maxRecDepth 4096
namespace Go.Gw
open Go
def ldS (secs : List FeedSection) (f : Nat → Int) (k : Nat) : Nat → Int
  | 0 => 0
  | j + 1 => ldS secs f k j + (secs[j]?.map fun s => Qyd s (f j) * QGu s (k : Int)).getD 0
section
variable {secs : List FeedSection} {f : Nat → Int} (hs : ∀ s ∈ secs, Qvx s) (hf : ∀ j, -160000 ≤ f j ∧ f j ≤ 160000)
include hs hf
end
theorem QGc (m j : Nat) (hj : j < m) (f g : Nat → Int) : ((List.range m).map fun i => if i < j then g i else f i).set j (g j) = (List.range m).map fun i => if i < j + 1 then g i else f i := by
  apply List.ext_getElem?
  intro i
  by_cases hi : i = j
  · subst hi
    rw [List.getElem?_set_self (by simpa using hj)]
    simp [hj]
  · rw [List.getElem?_set_ne (Ne.symm hi)]
    by_cases him : i < m
    · simp only [List.getElem?_map, List.getElem?_range him, Option.map_some, Option.some.injEq]
      by_cases h1 : i < j
      · rw [if_pos h1, if_pos (by omega)]
      · rw [if_neg h1, if_neg (by omega)]
    · simp [him]
theorem QDb (m j : Nat) (hj : j < m) (f g : Nat → Int) : idx ((List.range m).map fun i => if i < j then g i else f i) (j : Int) = some (f j) := by
  rw [XX?]
  simp [hj]
def QLb (n : FeedNet) (f : Nat → Int) : List Int := (List.range n.Stations.length).map fun k => ldS n.Sections f k n.Sections.length
end Go.Gw

end
