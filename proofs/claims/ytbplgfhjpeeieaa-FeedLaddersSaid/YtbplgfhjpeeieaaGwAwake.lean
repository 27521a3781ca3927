/- Laws of the walk. Condition: each theorem says its own. -/
import Derived.Test.YtbplgfhjpeeieaaGwTwin
import Derived.Test.YtbplgfhjpeeieaaGwPlan
import Derived.IntWalk
set_option linter.unusedVariables false
set_option linter.unusedSimpArgs false
set_option linter.unusedSectionVars false
section
set_option maxRecDepth 1000000
namespace Go.Gw
open Go
theorem Qvo : Qqb 60 = some true := by decide +kernel
theorem Qvn : Qdm = some true := QBv _ Qvo
end Go.Gw

end
section
set_option linter.unusedSectionVars false
namespace Go.Gw
open Go

theorem Yu {x : Int} (h : -9223372036854775808 ≤ x ∧ x ≤ 9223372036854775807) : w64 x = x := Go.IntWalk.i64_in x h

def Runs {α : Type} (e : Option α) (Q : α → Prop) : Prop := ∃ a, e = some a ∧ Q a

section
variable {α β σ μ : Type} {Q : α → Prop} {e e' : Option α}
theorem Runs.some {a : α} (h : Q a) : Runs (some a) Q := ⟨a, rfl, h⟩
theorem Runs.bind {e : Option β} {f : β → Option α} (h : Runs e fun b => Runs (f b) Q) : Runs (e.bind f) Q := by
  obtain ⟨b, rfl, a, ha, hq⟩ := h; exact ⟨a, ha, hq⟩
theorem Runs.mono {Q' : α → Prop} (h : Runs e Q) (hm : ∀ a, Q a → Q' a) : Runs e Q' := by obtain ⟨a, ha, hq⟩ := h; exact ⟨a, ha, hm _ hq⟩
theorem Runs.eq {a : α} (h : Runs e (· = a)) : e = .some a := by obtain ⟨b, hb, rfl⟩ := h; exact hb
theorem Runs.call {e : Option β} {f : β → Option α} {b : β} (h : e = .some b) (hq : Runs (f b) Q) : Runs (e.bind f) Q := by subst h; exact hq
theorem Runs.bif {b : Bool} (ht : b = true → Runs e Q) (hf : b = false → Runs e' Q) : Runs (bif b then e else e') Q := by
  cases b
  · exact hf rfl
  · exact ht rfl
theorem Runs.bif_t {b : Bool} (hb : b = true) (ht : Runs e Q) : Runs (bif b then e else e') Q := by subst hb; exact ht
theorem Runs.bif_f {b : Bool} (hb : b = false) (hf : Runs e' Q) : Runs (bif b then e else e') Q := by subst hb; exact hf
theorem Runs.jl {b : α} {f : μ → Option α} (h : Q b) : Runs (jn0 (.inl b) f) Q := ⟨b, rfl, h⟩
theorem Runs.j {o : α ⊕ μ} {f : μ → Option α} (hl : ∀ b, o = .inl b → Q b) (hr : ∀ m, o = .inr m → Runs (f m) Q) : Runs (jn0 o f) Q := by
  cases o with
  | inl b => exact Runs.jl (hl b rfl)
  | inr m => exact hr m rfl

def Rnd (I : σ → Prop) (m : σ → Nat) (Q : β → Prop) (s : σ) : σ ⊕ β → Prop
  | .inl s' => I s' ∧ m s' < m s
  | .inr o => Q o
theorem Runs.loop {step : σ → Option (σ ⊕ β)} {s : σ} {Q : β → Prop} (I : σ → Prop) (m : σ → Nat) (h0 : I s) (h : ∀ s, I s → Runs (step s) (Rnd I m Q s)) : Runs (Gw.loop step s) Q := by
  generalize hk : m s = k
  induction k using Nat.strongRecOn generalizing s with
  | _ k ih =>
    obtain ⟨x, hx, hq⟩ := h s h0
    cases x with
    | inl s' =>
      rw [Qic hx]
      exact ih (m s') (by have := hq.2; omega) hq.1 rfl
    | inr o => rw [Qdp hx]; exact ⟨o, rfl, hq⟩
theorem Qaj {step : σ → Option (σ ⊕ β)} {o : β} (S : Nat → σ) (n : Nat) (h : ∀ k, k < n → step (S k) = .some (.inl (S (k + 1)))) (he : step (S n) = .some (.inr o)) : Gw.loop step (S 0) = .some o := by
  have key : ∀ j k, j + k = n → Gw.loop step (S k) = .some o := by
    intro j
    induction j with
    | zero => intro k hk; obtain rfl : k = n := by omega
              exact Qdp he
    | succ j ih => intro k hk; rw [Qic (h k (by omega))]; exact ih (k + 1) (by omega)
  exact key n 0 (by omega)

theorem Runs.idx {xs : List β} {i : Int} {f : β → Option α} (h0 : 0 ≤ i) (h1 : i < xs.length) (h : ∀ x, xs[i.toNat]? = .some x → Runs (f x) Q) : Runs ((Gw.idx xs i).bind f) Q := by
  have hl : i.toNat < xs.length := by omega
  have e : Gw.idx xs i = .some xs[i.toNat] := by unfold Gw.idx; rw [if_pos h0, List.getElem?_eq_getElem hl]
  exact Runs.call e (h _ (List.getElem?_eq_getElem hl))
theorem Yh {xs : List β} {k : Nat} (h : k < xs.length) : Gw.idx xs (k : Int) = .some xs[k] := by
  unfold Gw.idx; rw [if_pos (by omega), Int.toNat_natCast, List.getElem?_eq_getElem h]
theorem Jx {xs ys : List β} (h : xs.length + ys.length ≤ 1073741824) : app xs ys = .some (xs ++ ys) := by unfold app; rw [if_pos h]
theorem QFe {a b : Int} (h : b ≠ 0) : rem a b = .some (a.tmod b) := by unfold rem; rw [if_neg h]
theorem Qdx {a b : Int} (h : b ≠ 0) : quo a b = .some (w64 (a.tdiv b)) := by unfold quo; rw [if_neg h]
end
end Go.Gw

end
section
set_option linter.unusedSectionVars false
namespace Go.Gw
section
variable {α β γ σ ρ : Type}
def XB (p : α → Bool) (res : Nat → α → ρ) : Nat → List α → ρ ⊕ Unit
  | _, [] => .inr ()
  | k, x :: xs => if p x then .inl (res k x) else XB p res (k + 1) xs
theorem ZK {step : Int → Option (Int ⊕ (ρ ⊕ Unit))} (xs : List α) (p : α → Bool) (res : Nat → α → ρ)
    (hs : ∀ k (hk : k < xs.length), step (k : Int) = (bif p xs[k] then some (.inr (.inl (res k xs[k]))) else some (.inl ((k + 1 : Nat) : Int))))
    (he : step (xs.length : Int) = some (.inr (.inr ()))) : loop step 0 = some (XB p res 0 xs) := by
  have key : ∀ j k, j + k = xs.length → loop step (k : Int) = some (XB p res k (xs.drop k)) := by
    intro j
    induction j with
    | zero =>
      intro k hk
      obtain rfl : k = xs.length := by omega
      rw [List.drop_length]
      exact Qdp he
    | succ j ih =>
      intro k hk
      have hlt : k < xs.length := by omega
      rw [List.drop_eq_getElem_cons hlt]
      have := hs k hlt
      cases hp : p xs[k] with
      | true => rw [hp] at this; simp only [XB, hp, if_true]; exact Qdp this
      | false => rw [hp] at this; simp only [XB, hp]; rw [Qic this]; exact ih (k + 1) (by omega)
  have := key xs.length 0 (by omega)
  simpa using this

def fld (f : Nat → γ → α → γ) : Nat → γ → List α → γ
  | _, a, [] => a
  | k, a, x :: xs => fld f (k + 1) (f k a x) xs
def rng (f : Nat → γ → γ) (a : γ) : Nat → γ
  | 0 => a
  | n + 1 => f n (rng f a n)
theorem YZ (k : Nat) (h : k < 4611686018427387904) : w64 ((k : Int) + 1) = ((k + 1 : Nat) : Int) := by rw [Yu (by omega)]; omega
theorem Ys {k n : Nat} (h : k < n) : decide ((k : Int) < (n : Int)) = true := by simp; omega
theorem YC (n : Nat) : decide ((n : Int) < (n : Int)) = false := by simp
end
end Go.Gw

end
section
set_option maxRecDepth 4096
namespace Go.Gw
open Go

def YS : List Int → Int
  | [] => 0
  | x :: xs => if x = 0 then YS xs else x
theorem Qhw (l : List Int) (hl : l.length < 1073741824) : Yc l = some (YS l) := by
  unfold Yc
  rw [ZK l (fun x => !decide (x = 0)) (fun _ x => x)]
  · have key : ∀ (l : List Int) k, (jn0 (XB (fun x => !decide (x = 0)) (fun _ x => x) k l) fun (_ : Unit) => some 0) = some (YS l) := by
      intro l
      induction l with
      | nil => intro k; rfl
      | cons x xs ih =>
        intro k
        by_cases h : x = 0
        · simp [XB, YS, h]; exact ih _
        · simp [XB, YS, h, jn0]
    simpa using key l 0
  · intro k hk
    unfold Qcr
    rw [Ys hk, Yh hk, YZ k (by omega)]; rfl
  · unfold Qcr
    rw [YC]; rfl
theorem JV (b : Bool) (e : Int) : Xn b e = some (bif b then 0 else e) := by cases b <;> rfl
theorem QIg (n lo hi : Int) : YR n lo hi = some (decide (lo ≤ n) && decide (n ≤ hi)) := rfl
theorem Qwc (n lo hi : Int) : Jy n lo hi = some (decide (lo ≤ n) && decide (n ≤ hi)) := rfl
theorem Qtq (n m : Int) (h : 0 ≤ m) (h2 : m ≤ 9223372036854775807) : ZU n m = some (decide (-m ≤ n) && decide (n ≤ m)) := by
  unfold ZU
  rw [Yu (by omega), QIg, Int.zero_sub]; rfl
theorem Qtr {α : Type} (p : α → Bool) : ∀ (l : List α) (k : Nat), (jn0 (β := Int) (XB p (fun k _ => (k : Int)) k l) fun (_ : Unit) => some (-1)) = some (match XB p (fun k _ => (k : Int)) k l with | .inl i => i | .inr _ => -1)
  | l, k => by cases XB p (fun k _ => (k : Int)) k l <;> rfl
theorem Qjm {α : Type} (p : α → Bool) : ∀ (l : List α) (k : Nat), decide (0 ≤ (match XB p (fun k _ => (k : Int)) k l with | .inl i => i | .inr _ => (-1 : Int))) = l.any p
  | [], k => by simp [XB]
  | x :: xs, k => by
    by_cases h : p x = true
    · simp [XB, h]
    · simp only [XB, h, List.any_cons]
      have := Qjm p xs (k + 1)
      simpa [h] using this
theorem Qjl {α ρ : Type} {p : α → Bool} {res : Nat → α → ρ} : ∀ (l : List α) (k : Nat), (XB p res k l = .inr () ∧ l.any p = false) ∨ ∃ j x, XB p res k l = .inl (res j x) ∧ p x = true ∧ l.any p = true
  | [], k => .inl ⟨rfl, rfl⟩
  | x :: xs, k => by
    by_cases h : p x = true
    · exact .inr ⟨k, x, by simp [XB, h], h, by simp [h]⟩
    · rcases Qjl xs (k + 1) (p := p) (res := res) with ⟨h1, h2⟩ | ⟨j, y, h1, h2, h3⟩
      · exact .inl ⟨by simp [XB, h, h1], by simp [h, h2]⟩
      · exact .inr ⟨j, y, by simp [XB, h, h1], h2, by simp [h3]⟩
/-! ### Ladders -/
theorem Qwf (l : List Int) (hl : l.length < 1073741824) : Qau l = some (l.any fun n => !(decide (-20000 ≤ n) && decide (n ≤ 20000))) := by
  unfold Qau Qeq
  rw [ZK l (fun n => !(decide (-20000 ≤ n) && decide (n ≤ 20000))) (fun k _ => (k : Int)), Option.bind_some, Qtr, Option.bind_some, Qjm]
  · intro k hk
    unfold Qep Qcu
    rw [Ys hk, Yh hk, YZ k (by omega)]
    simp only [Option.bind_some, cond_true]
    rw [Qtq _ _ (by omega) (by omega)]; rfl
  · unfold Qep
    rw [YC]; rfl
theorem Qwg (l : List Int) (hl : l.length < 1073741824) : Qat l = some (l.any fun n => !(decide (1 ≤ n) && decide (n ≤ 500))) := by
  unfold Qat Qeo
  rw [ZK l (fun n => !(decide (1 ≤ n) && decide (n ≤ 500))) (fun k _ => (k : Int)), Option.bind_some, Qtr, Option.bind_some, Qjm]
  · intro k hk
    unfold Qen Qct
    rw [Ys hk, Yh hk, YZ k (by omega)]; rfl
  · unfold Qen
    rw [YC]; rfl
def Qdj (l : FeedLadder) : Bool := (l.Ohms.any fun n => !(decide (1 ≤ n) && decide (n ≤ 500))) || (l.Loads.any fun n => !(decide (-20000 ≤ n) && decide (n ≤ 20000)))
def YT (l : FeedLadder) : Int := if ¬ (0 < l.Loads.length ∧ l.Ohms.length = l.Loads.length + 1) then 10 else if 8 < l.Loads.length then 8 else if Qdj l then 2 else 0
theorem Qpz (l : FeedLadder) (h1 : l.Ohms.length < 1000) (h2 : l.Loads.length < 1000) : JE l = some (YT l) := by
  unfold JE
  rw [Qwg _ (by omega), Qwf _ (by omega)]
  simp only [Option.bind_some, JV]
  rw [Qhw _ (by simp), Yu (by omega)]
  simp only [Option.bind_some, Option.some.injEq]
  unfold YT Qdj
  by_cases a : 0 < l.Loads.length ∧ l.Ohms.length = l.Loads.length + 1
  · rw [if_neg (by simpa using a)]
    have : (decide (0 < (l.Loads.length : Int)) && decide ((l.Ohms.length : Int) = (l.Loads.length : Int) + 1)) = true := by simp; omega
    rw [this]
    by_cases b : 8 < l.Loads.length
    · rw [if_pos b, decide_eq_false (show ¬ ((l.Loads.length : Int) ≤ 8) by omega)]; simp [YS]
    · rw [if_neg b, decide_eq_true (show ((l.Loads.length : Int) ≤ 8) by omega)]
      cases (l.Ohms.any fun n => !(decide (1 ≤ n) && decide (n ≤ 500))) <;> cases (l.Loads.any fun n => !(decide (-20000 ≤ n) && decide (n ≤ 20000))) <;> simp [YS]
  · rw [if_pos a]
    have : (decide (0 < (l.Loads.length : Int)) && decide ((l.Ohms.length : Int) = (l.Loads.length : Int) + 1)) = false := by
      rw [Bool.eq_false_iff]; intro h; simp at h; exact a (by omega)
    rw [this]; simp [YS]
theorem QEv (l : FeedLadder) (h1 : l.Ohms.length < 1000) (h2 : l.Loads.length < 1000) : Qea l = some (YT l) := by
  unfold Qea
  rw [ZK l.Ohms (fun n => !(decide (1 ≤ n) && decide (n ≤ 500))) (fun _ _ => (2 : Int)), ZK l.Loads (fun n => !(decide (-20000 ≤ n) && decide (n ≤ 20000))) (fun _ _ => (2 : Int))]
  · rw [Yu (by omega)]
    unfold YT Qdj
    by_cases a : 0 < l.Loads.length ∧ l.Ohms.length = l.Loads.length + 1
    · rw [if_neg (by simpa using a)]
      have : (decide ((l.Loads.length : Int) = 0) || !decide ((l.Ohms.length : Int) = (l.Loads.length : Int) + 1)) = false := by
        rw [decide_eq_false (by omega), decide_eq_true (by omega)]; rfl
      rw [this, cond_false]
      by_cases b : 8 < l.Loads.length
      · rw [if_pos b, decide_eq_true (show 8 < (l.Loads.length : Int) by omega)]; rfl
      · rw [if_neg b, decide_eq_false (show ¬ 8 < (l.Loads.length : Int) by omega), cond_false]
        rcases Qjl (p := fun n => !(decide (1 ≤ n) && decide (n ≤ 500))) (res := fun _ _ => (2 : Int)) l.Ohms 0 with ⟨k1, k2⟩ | ⟨j, x, k1, k2, k3⟩
        · rw [k1, k2]
          rcases Qjl (p := fun n => !(decide (-20000 ≤ n) && decide (n ≤ 20000))) (res := fun _ _ => (2 : Int)) l.Loads 0 with ⟨k3, k4⟩ | ⟨j, x, k3, k4, k5⟩
          · rw [k3, k4]; rfl
          · rw [k3, k5]; rfl
        · rw [k1, k3]; rfl
    · rw [if_pos a]
      have : (decide ((l.Loads.length : Int) = 0) || !decide ((l.Ohms.length : Int) = (l.Loads.length : Int) + 1)) = true := by
        rcases Nat.eq_zero_or_pos l.Loads.length with h | h
        · rw [decide_eq_true (by omega)]; rfl
        · rw [decide_eq_false (p := (l.Ohms.length : Int) = (l.Loads.length : Int) + 1) (by omega)]; simp
      rw [this]; rfl
  · intro k hk
    unfold Qit
    rw [Ys hk, Yh hk, YZ k (by omega)]; rfl
  · unfold Qit
    rw [YC]; rfl
  · intro k hk
    unfold Qis
    rw [Ys hk, Yh hk, YZ k (by omega)]; rfl
  · unfold Qis
    rw [YC]; rfl
end Go.Gw

end
section
set_option maxRecDepth 4096
namespace Go.Gw
open Go
/-! ### The greatest common divisor -/
theorem Qps (a b : Int) : ∃ x, loop Qbr (a, b) = some x ∧ ((a ≠ 0 ∨ b ≠ 0) → x ≠ 0) ∧ ∀ B : Nat, a.natAbs ≤ B → b.natAbs ≤ B → x.natAbs ≤ B := by
  have : Runs (loop Qbr (a, b)) (fun x => ((a ≠ 0 ∨ b ≠ 0) → x ≠ 0) ∧ ∀ B : Nat, a.natAbs ≤ B → b.natAbs ≤ B → x.natAbs ≤ B) := by
    refine Runs.loop (fun s => ((a ≠ 0 ∨ b ≠ 0) → s.1 ≠ 0 ∨ s.2 ≠ 0) ∧ ∀ B : Nat, a.natAbs ≤ B → b.natAbs ≤ B → s.1.natAbs ≤ B ∧ s.2.natAbs ≤ B) (fun s => s.2.natAbs) ⟨fun h => h, fun B h1 h2 => ⟨h1, h2⟩⟩ ?_
    rintro ⟨x, y⟩ ⟨h1, h2⟩
    unfold Qbr
    by_cases hy : y = 0
    · subst hy
      refine Runs.bif_f (by simp) (Runs.some ⟨fun h => (h1 h).resolve_right (fun h => h rfl), fun B ha hb => (h2 B ha hb).1⟩)
    · refine Runs.bif_t (by simp [hy]) ?_
      rw [QFe hy]
      have hlt : (x.tmod y).natAbs < y.natAbs := by
        rw [Int.natAbs_tmod]; exact Nat.mod_lt _ (by omega)
      exact ⟨.inl (y, x.tmod y), rfl, ⟨fun _ => .inl hy, fun B ha hb => ⟨(h2 B ha hb).2, by have := (h2 B ha hb).2; show (x.tmod y).natAbs ≤ B; omega⟩⟩, hlt⟩
  exact this
theorem Qlk (a b : Int) : Zr a b = Yx a b := by
  unfold Zr Yx Qbu
  rfl
theorem Qpr (a b : Int) : ∃ g, Yx a b = some g := by
  obtain ⟨x, h, _⟩ := Qps a b
  unfold Yx
  rw [h]
  exact ⟨_, rfl⟩
theorem QBo {a b : Int} (hb : b ≠ 0) (h1 : a.natAbs ≤ 4611686018427387904) (h2 : b.natAbs ≤ 4611686018427387904) : ∃ g, Yx a b = some g ∧ 0 < g ∧ g ≤ 4611686018427387904 := by
  obtain ⟨x, h, h3, h4⟩ := Qps a b
  have hx := h3 (.inr hb)
  have hB := h4 _ h1 h2
  unfold Yx Qbu
  rw [h]
  refine ⟨_, rfl, ?_⟩
  rw [Yu (by omega)]
  split <;> omega
noncomputable def ZY (n A : Int) : Frac := (ZS n A).getD default
theorem QCb {n A : Int} (hA : 0 < A) (hA2 : A ≤ 4611686018427387904) (hn : n.natAbs ≤ 4611686018427387904) : ZS n A = some (ZY n A) ∧ (Option.bind (Zr n A) fun g => Option.bind (quo n g) fun p => Option.bind (quo A g) fun q => some (Frac.mk p q)) = some (ZY n A) := by
  obtain ⟨g, hg, hg0, hg1⟩ := QBo (a := n) (b := A) (by omega) hn (by omega)
  have e : ZS n A = some (Frac.mk (w64 (n.tdiv g)) (w64 (A.tdiv g))) := by
    unfold ZS
    rw [hg, Option.bind_some, decide_eq_false (by omega), cond_false, Qdx (by omega), Option.bind_some, Qdx (by omega)]; rfl
  have e2 : ZY n A = Frac.mk (w64 (n.tdiv g)) (w64 (A.tdiv g)) := by unfold ZY; rw [e]; rfl
  refine ⟨by rw [e, e2], ?_⟩
  rw [Qlk, hg, Option.bind_some, Qdx (by omega), Option.bind_some, Qdx (by omega), Option.bind_some, e2]
/-! ### Sums -/
theorem Qaw {c : Int} (hc : 0 ≤ c) : ∀ {l : List Int}, (∀ x ∈ l, -c ≤ x ∧ x ≤ c) → -(c * l.length) ≤ l.sum ∧ l.sum ≤ c * l.length
  | [], _ => by simp
  | x :: l, h => by
    have h1 := h x (List.mem_cons_self ..)
    have h2 := Qaw hc (l := l) fun y hy => h y (List.mem_cons_of_mem _ hy)
    simp only [List.sum_cons, List.length_cons]
    have : c * ((l.length + 1 : Nat) : Int) = c * l.length + c := by rw [Int.natCast_add, Int.mul_add]; simp
    rw [this]
    omega
theorem Qba {l : List Int} {k : Nat} (hk : k < l.length) : (l.take (k + 1)).sum = (l.take k).sum + l[k] := by
  rw [List.take_add_one, List.getElem?_eq_getElem hk, List.sum_append]
  simp
theorem Qjn {l : List Int} {c : Int} (hc : 0 ≤ c) (hc2 : c ≤ 1000000000) (h : ∀ x ∈ l, -c ≤ x ∧ x ≤ c) (hl : l.length ≤ 1000) : JQ l = some l.sum := by
  have key : loop (Qef l) (0, 0) = some l.sum := Qaj (o := l.sum) (fun k => ((l.take k).sum, (k : Int))) l.length ?_ ?_
  · unfold JQ
    rw [key]; rfl
  · intro k hk
    unfold Qef
    have hb := Qaw hc (l := l.take (k + 1)) fun x hx => h x (List.mem_of_mem_take hx)
    have hlen : (l.take (k + 1)).length = k + 1 := by simp; omega
    rw [hlen, Qba hk] at hb
    have hm : c * ((k + 1 : Nat) : Int) ≤ 1000000000 * 1000 := Int.mul_le_mul hc2 (by omega) (by omega) (by omega)
    simp only [Ys hk, cond_true, Yh hk, Option.bind_some]
    rw [Yu (by omega), YZ k (by omega), Qba hk]
  · unfold Qef
    simp only [YC, cond_false, List.take_length]
end Go.Gw

end
section
set_option maxRecDepth 4096
namespace Go.Gw
open Go
structure LadOk (l : FeedLadder) : Prop where
  pos : 0 < l.Loads.length
  most : l.Loads.length ≤ 8
  len : l.Ohms.length = l.Loads.length + 1
  ohm : ∀ x ∈ l.Ohms, 1 ≤ x ∧ x ≤ 500
  load : ∀ x ∈ l.Loads, -20000 ≤ x ∧ x ≤ 20000
theorem Qia {l : FeedLadder} (h : YT l = 0) : LadOk l := by
  unfold YT at h
  split at h
  · cases h
  · rename_i h1
    have h1 := Classical.not_not.1 h1
    split at h
    · cases h
    · rename_i h2
      split at h
      · cases h
      · rename_i h3
        unfold Qdj at h3
        simp only [Bool.or_eq_true, List.any_eq_true, not_or, not_exists, not_and] at h3
        refine ⟨h1.1, by omega, h1.2, fun x hx => ?_, fun x hx => ?_⟩
        · have := h3.1 x hx; simpa using this
        · have := h3.2 x hx; simpa using this
theorem Qak {a b m n : Int} (ha : -m ≤ a ∧ a ≤ m) (hb : -n ≤ b ∧ b ≤ n) : -(m * n) ≤ a * b ∧ a * b ≤ m * n := by
  have h1 : a.natAbs ≤ m.natAbs := by omega
  have h2 : b.natAbs ≤ n.natAbs := by omega
  have h3 := Nat.mul_le_mul h1 h2
  rw [← Int.natAbs_mul, ← Int.natAbs_mul] at h3
  have h4 : 0 ≤ m * n := Int.mul_nonneg (by omega) (by omega)
  omega
def pk (l : FeedLadder) (k : Nat) : Int := (l.Loads.take k).sum
def lf (l : FeedLadder) : Nat → Int
  | 0 => 0
  | k + 1 => lf l k + l.Ohms.getD k 0 * pk l k
def rk (l : FeedLadder) : Nat → Int
  | 0 => 0
  | k + 1 => rk l k + l.Loads.getD k 0 * (l.Ohms.drop (k + 1)).sum
section
variable {l : FeedLadder} (h : LadOk l)
include h
theorem Qao (k : Nat) : -160000 ≤ pk l k ∧ pk l k ≤ 160000 := by
  have := Qaw (c := 20000) (by omega) (l := l.Loads.take k) fun x hx => h.load x (List.mem_of_mem_take hx)
  have hl : (l.Loads.take k).length ≤ 8 := by have := h.most; rw [List.length_take]; omega
  unfold pk; omega
theorem Qrl (k : Nat) : 0 ≤ (l.Ohms.take k).sum ∧ (l.Ohms.take k).sum ≤ 4500 := by
  have key : ∀ (m : List Int), (∀ x ∈ m, 1 ≤ x ∧ x ≤ 500) → 0 ≤ m.sum := by
    intro m
    induction m with
    | nil => intro _; simp
    | cons x xs ih => intro hm; have := hm x (List.mem_cons_self ..); have := ih fun y hy => hm y (List.mem_cons_of_mem _ hy); simp only [List.sum_cons]; omega
  have := Qaw (c := 500) (by omega) (l := l.Ohms.take k) fun x hx => by have := h.ohm x (List.mem_of_mem_take hx); omega
  have hl : (l.Ohms.take k).length ≤ 9 := by have := h.most; have := h.len; rw [List.length_take]; omega
  exact ⟨key _ fun x hx => h.ohm x (List.mem_of_mem_take hx), by omega⟩
theorem Qrg (k : Nat) : -4500 ≤ (l.Ohms.drop k).sum ∧ (l.Ohms.drop k).sum ≤ 4500 := by
  have := Qaw (c := 500) (by omega) (l := l.Ohms.drop k) fun x hx => by have := h.ohm x (List.mem_of_mem_drop hx); omega
  have hl : (l.Ohms.drop k).length ≤ 9 := by have := h.most; have := h.len; rw [List.length_drop]; omega
  omega
theorem og (k : Nat) : -500 ≤ l.Ohms.getD k 0 ∧ l.Ohms.getD k 0 ≤ 500 := by
  by_cases hk : k < l.Ohms.length
  · have := h.ohm _ (List.getElem_mem hk)
    simp only [List.getD, List.getElem?_eq_getElem hk, Option.getD_some]; omega
  · simp [List.getD, List.getElem?_eq_none (Nat.le_of_not_lt hk)]
theorem lg (k : Nat) : -20000 ≤ l.Loads.getD k 0 ∧ l.Loads.getD k 0 ≤ 20000 := by
  by_cases hk : k < l.Loads.length
  · have := h.load _ (List.getElem_mem hk)
    simp only [List.getD, List.getElem?_eq_getElem hk, Option.getD_some]; omega
  · simp [List.getD, List.getElem?_eq_none (Nat.le_of_not_lt hk)]
theorem Qdo : ∀ k : Nat, -(80000000 * (k : Int)) ≤ lf l k ∧ lf l k ≤ 80000000 * (k : Int)
  | 0 => by simp [lf]
  | k + 1 => by
    have h1 := Qdo k
    have h2 := Qak (og h k) (Qao h k)
    simp only [lf]
    omega
theorem Qry : ∀ k : Nat, -(90000000 * (k : Int)) ≤ rk l k ∧ rk l k ≤ 90000000 * (k : Int)
  | 0 => by simp [rk]
  | k + 1 => by
    have h1 := Qry k
    have h2 := Qak (lg h k) (Qrg h (k + 1))
    simp only [rk]
    omega
theorem Qkf : ∀ k, k ≤ l.Loads.length → lf l k + pk l k * (l.Ohms.drop k).sum = rk l k
  | 0, _ => by simp [lf, rk, pk]
  | k + 1, hk => by
    have ih := Qkf k (by omega)
    have hko : k < l.Ohms.length := by have := h.len; omega
    have hkl : k < l.Loads.length := by omega
    have e1 : (l.Ohms.drop k).sum = l.Ohms[k] + (l.Ohms.drop (k + 1)).sum := by rw [List.drop_eq_getElem_cons hko, List.sum_cons]
    have e2 : pk l (k + 1) = pk l k + l.Loads[k] := Qba hkl
    have e3 : l.Ohms.getD k 0 = l.Ohms[k] := by simp [List.getD, List.getElem?_eq_getElem hko]
    have e4 : l.Loads.getD k 0 = l.Loads[k] := by simp [List.getD, List.getElem?_eq_getElem hkl]
    simp only [lf, rk, e2, e3, e4, ← ih, e1]
    rw [Int.mul_add, Int.add_mul, Int.mul_comm l.Ohms[k]]
    omega
theorem Qqd : lf l l.Ohms.length = rk l l.Loads.length := by
  have ha := Qkf h l.Loads.length (Nat.le_refl _)
  have hko : l.Loads.length < l.Ohms.length := by have := h.len; omega
  have e1 : (l.Ohms.drop l.Loads.length).sum = l.Ohms[l.Loads.length] := by
    rw [List.drop_eq_getElem_cons hko, List.sum_cons, List.drop_eq_nil_of_le (by have := h.len; omega)]; simp
  rw [h.len]
  simp only [lf]
  rw [← ha, e1]
  simp only [List.getD, List.getElem?_eq_getElem hko, Option.getD_some]
  rw [Int.mul_comm]
end
noncomputable def Yf (l : FeedLadder) (A L : Int) (n : Nat) : List Frac := (List.range n).map fun i => ZY (L - pk l i * A) A
theorem Qlj (l : FeedLadder) (A L : Int) (n : Nat) : Yf l A L n ++ [ZY (L - pk l n * A) A] = Yf l A L (n + 1) := by
  unfold Yf; rw [List.range_succ, List.map_append]; rfl
section
variable {l : FeedLadder} (h : LadOk l)
include h
theorem Quy : 0 < l.Ohms.sum ∧ l.Ohms.sum ≤ 4500 := by
  have h1 := Qrl h l.Ohms.length
  rw [List.take_length] at h1
  cases ho : l.Ohms with
  | nil => have := h.len; rw [ho] at this; simp at this
  | cons x xs =>
    have hx := h.ohm x (by rw [ho]; simp)
    have key : ∀ (m : List Int), (∀ x ∈ m, 1 ≤ x ∧ x ≤ 500) → 0 ≤ m.sum := by
      intro m
      induction m with
      | nil => intro _; simp
      | cons x xs ih => intro hm; have := hm x (List.mem_cons_self ..); have := ih fun y hy => hm y (List.mem_cons_of_mem _ hy); simp only [List.sum_cons]; omega
    have := key xs fun y hy => h.ohm y (by rw [ho]; exact List.mem_cons_of_mem _ hy)
    rw [ho] at h1
    simp only [List.sum_cons] at h1 ⊢
    omega
theorem Qqf (k : Nat) (L : Int) (hL : -800000000 ≤ L ∧ L ≤ 800000000) : w64 (pk l k * l.Ohms.sum) = pk l k * l.Ohms.sum ∧ w64 (L - pk l k * l.Ohms.sum) = L - pk l k * l.Ohms.sum ∧
    ZS (L - pk l k * l.Ohms.sum) l.Ohms.sum = some (ZY (L - pk l k * l.Ohms.sum) l.Ohms.sum) ∧
    (Option.bind (Zr (L - pk l k * l.Ohms.sum) l.Ohms.sum) fun g => Option.bind (quo (L - pk l k * l.Ohms.sum) g) fun p => Option.bind (quo l.Ohms.sum g) fun q => some (Frac.mk p q)) = some (ZY (L - pk l k * l.Ohms.sum) l.Ohms.sum) := by
  have hA := Quy h
  have hp := Qak (Qao h k) (b := l.Ohms.sum) (n := 4500) (by omega)
  have := QCb (n := L - pk l k * l.Ohms.sum) hA.1 (by omega) (by omega)
  exact ⟨Yu (by omega), Yu (by omega), this.1, this.2⟩
theorem Qqa : JF l = some (Yf l l.Ohms.sum (lf l l.Ohms.length) l.Ohms.length) := by
  have hlen := h.len
  have hmost := h.most
  have hL := Qdo h l.Ohms.length
  have k1 : loop (Qab l) (([] : List Int), 0, 0, 0, 0) = some ((List.range l.Ohms.length).map (pk l), l.Ohms.sum, lf l l.Ohms.length) :=
    Qaj (fun k => ((List.range k).map (pk l), (l.Ohms.take k).sum, lf l k, pk l k, (k : Int))) l.Ohms.length (fun k hk => by
      have hb := Qrl h (k + 1)
      have e3 : l.Ohms.getD k 0 = l.Ohms[k] := by simp [List.getD, List.getElem?_eq_getElem hk]
      have hm := Qak (og h k) (Qao h k)
      have hlf := Qdo h k
      have hpk := Qao h k
      rw [e3] at hm
      unfold Qab
      simp only [Ys hk, cond_true, Yh hk, Option.bind_some]
      rw [Jx (by simp; omega), Option.bind_some, show w64 ((l.Ohms.take k).sum + l.Ohms[k]) = (l.Ohms.take (k + 1)).sum by rw [Qba hk] at hb ⊢; exact Yu (by omega),
        Yu (x := l.Ohms[k] * pk l k) (by omega), Yu (x := lf l k + l.Ohms[k] * pk l k) (by omega), YZ k (by omega)]
      have e5 : lf l k + l.Ohms[k] * pk l k = lf l (k + 1) := by simp only [lf, e3]
      rw [e5, show (List.range k).map (pk l) ++ [pk l k] = (List.range (k + 1)).map (pk l) by rw [List.range_succ, List.map_append]; rfl]
      by_cases hkl : k < l.Loads.length
      · rw [Ys hkl, cond_true, Yh hkl, Option.bind_some]
        have e2 : pk l (k + 1) = pk l k + l.Loads[k] := Qba hkl
        have hp2 := Qao h (k + 1)
        rw [e2] at hp2
        rw [Yu (by omega), ← e2]
      · rw [decide_eq_false (by omega), cond_false]
        have e2 : pk l (k + 1) = pk l k := by unfold pk; rw [List.take_of_length_le (by omega), List.take_of_length_le (by omega)]
        rw [e2]) (by
      unfold Qab
      simp only [YC, cond_false, List.take_length])
  have k2 : loop (Qac ((List.range l.Ohms.length).map (pk l)) l.Ohms.sum (lf l l.Ohms.length)) (([] : List Frac), 0) = some (Yf l l.Ohms.sum (lf l l.Ohms.length) l.Ohms.length) :=
    Qaj (fun k => (Yf l l.Ohms.sum (lf l l.Ohms.length) k, (k : Int))) l.Ohms.length (fun k hk => by
      have hk' : k < ((List.range l.Ohms.length).map (pk l)).length := by simpa using hk
      obtain ⟨w1, w2, _, w4⟩ := Qqf h k (lf l l.Ohms.length) (by omega)
      unfold Qac
      simp only [Ys hk', cond_true, Yh hk', Option.bind_some, List.getElem_map, List.getElem_range, w1, w2]
      cases hd : Zr (lf l l.Ohms.length - pk l k * l.Ohms.sum) l.Ohms.sum with
      | none => rw [hd] at w4; cases w4
      | some g =>
        rw [hd] at w4
        simp only [Option.bind_some] at w4 ⊢
        cases hq : quo (lf l l.Ohms.length - pk l k * l.Ohms.sum) g with
        | none => rw [hq] at w4; cases w4
        | some p =>
          rw [hq] at w4
          simp only [Option.bind_some] at w4 ⊢
          cases hr : quo l.Ohms.sum g with
          | none => rw [hr] at w4; cases w4
          | some q =>
            rw [hr] at w4
            simp only [Option.bind_some, Option.some.injEq] at w4 ⊢
            rw [w4, Jx (by simp [Yf]; omega), Option.bind_some, Qlj, YZ k (by omega)]) (by
      have : ((List.range l.Ohms.length).map (pk l)).length = l.Ohms.length := by simp
      unfold Qac
      simp only [this, YC, cond_false])
  unfold JF
  rw [k1, Option.bind_some]
  simp only [k2, Option.bind_some]
theorem QEw : Qed l = some (Yf l l.Ohms.sum (lf l l.Ohms.length) l.Ohms.length) := by
  have hlen := h.len
  have hmost := h.most
  have hL := Qdo h l.Ohms.length
  have k1 : loop (Qeb l) (0, 0) = some (rk l l.Loads.length) :=
    Qaj (fun k => (rk l k, (k : Int))) l.Loads.length (fun k hk => by
      have hm := Qak (lg h k) (Qrg h (k + 1))
      have hrk := Qry h k
      have e4 : l.Loads.getD k 0 = l.Loads[k] := by simp [List.getD, List.getElem?_eq_getElem hk]
      rw [e4] at hm
      have hc : cut l.Ohms ((k : Int) + 1) (l.Ohms.length : Int) = some (l.Ohms.drop (k + 1)) := by
        unfold cut
        rw [if_pos (by omega)]
        simp
      unfold Qeb
      simp only [Ys hk, cond_true, Yh hk, Option.bind_some]
      rw [show w64 ((k : Int) + 1) = (k : Int) + 1 from Yu (by omega), hc, Option.bind_some, Qjn (c := 500) (by omega) (by omega) (fun x hx => by have := h.ohm x (List.mem_of_mem_drop hx); omega) (by simp; omega), Option.bind_some,
        Yu (x := l.Loads[k] * (l.Ohms.drop (k + 1)).sum) (by omega), Yu (by omega)]
      simp only [rk, e4]
      rfl) (by
      unfold Qeb
      simp only [YC, cond_false])
  have k2 : loop (Qec l l.Ohms.sum (rk l l.Loads.length)) (([] : List Frac), 0) = some (Yf l l.Ohms.sum (rk l l.Loads.length) l.Ohms.length) :=
    Qaj (fun k => (Yf l l.Ohms.sum (rk l l.Loads.length) k, (k : Int))) l.Ohms.length (fun k hk => by
      rw [← Qqd h]
      obtain ⟨w1, w2, w3, _⟩ := Qqf h k (lf l l.Ohms.length) (by omega)
      have hc : cut l.Loads 0 (k : Int) = some (l.Loads.take k) := by
        unfold cut
        rw [if_pos (by omega)]
        simp
      unfold Qec
      simp only [Ys hk, cond_true, hc, Option.bind_some]
      rw [Qjn (c := 20000) (by omega) (by omega) (fun x hx => by have := h.load x (List.mem_of_mem_take hx); omega) (by simp; omega), Option.bind_some]
      change (Option.bind (ZS (w64 (lf l l.Ohms.length - w64 (pk l k * l.Ohms.sum))) l.Ohms.sum) fun r494 => _) = _
      rw [w1, w2, w3, Option.bind_some, Jx (by simp [Yf]; omega), Option.bind_some, Qlj, YZ k (by omega)]) (by
      unfold Qec
      simp only [YC, cond_false])
  unfold Qed
  rw [Qjn (c := 500) (by omega) (by omega) (fun x hx => by have := h.ohm x hx; omega) (by omega), Option.bind_some, k1, Option.bind_some, k2, Option.bind_some, Qqd h]
end
end Go.Gw

end
section
set_option maxRecDepth 4096
namespace Go.Gw
open Go
theorem Qgi {α : Type} [DecidableEq α] : ∀ (a b : List α) (hl : a.length = b.length) (k : Nat), (jn0 (XB (fun (x : α × α) => !decide (x.1 = x.2)) (fun _ _ => false) k (a.zip b)) fun (_ : Unit) => some true) = some (decide (a = b))
  | [], [], _, k => by simp [XB, jn0]
  | [], _ :: _, hl, _ => by simp at hl
  | _ :: _, [], hl, _ => by simp at hl
  | x :: a, y :: b, hl, k => by
    by_cases hxy : x = y
    · subst hxy
      have := Qgi a b (by simpa using hl) (k + 1)
      simp only [List.zip_cons_cons, XB]
      simpa using this
    · simp [XB, hxy, jn0]
theorem Qfh {α : Type} {a b : List α} (hl : a.length = b.length) : (a.zip b).length = a.length := by simp [hl]
theorem Qpq (a b : List Frac) (ha : a.length < 1000000) : Z7 a b = some (decide (a = b)) := by
  unfold Z7
  by_cases hl : a.length = b.length
  · rw [decide_eq_true (by omega), Bool.not_true, cond_false, ZK (a.zip b) (fun x => !decide (x.1 = x.2)) (fun _ _ => false), Option.bind_some, Qgi a b hl]
    · intro k hk
      rw [Qfh hl] at hk
      unfold Qbq
      rw [Ys hk, cond_true, Yh hk, Option.bind_some, Yh (show k < b.length by omega), Option.bind_some, YZ k (by omega)]
      simp only [List.getElem_zip]
    · rw [Qfh hl]
      unfold Qbq
      rw [YC]; rfl
  · rw [decide_eq_false (by omega)]
    simp only [Bool.not_false, cond_true]
    rw [decide_eq_false]
    intro e; exact hl (by rw [e])
theorem Qxk (a b : List Frac) (ha : a.length < 1000000) : Qem a b = some (decide (a = b)) := by
  unfold Qem
  by_cases hl : a.length = b.length
  · rw [decide_eq_true (by omega), Bool.not_true, cond_false, ZK (a.zip b) (fun x => !decide (x.1 = x.2)) (fun _ _ => false), Option.bind_some, Qgi a b hl]
    · intro k hk
      rw [Qfh hl] at hk
      unfold Qje
      rw [Ys hk, cond_true, Yh hk, Option.bind_some, Yh (show k < b.length by omega), Option.bind_some, YZ k (by omega)]
      simp only [List.getElem_zip]
    · rw [Qfh hl]
      unfold Qje
      rw [YC]; rfl
  · rw [decide_eq_false (by omega)]
    simp only [Bool.not_false, cond_true]
    rw [decide_eq_false]
    intro e; exact hl (by rw [e])
noncomputable def Yp (f : Frac) : Int := if 0 < f.Den ∧ Yx f.Num f.Den = some 1 then (if -1000000000 ≤ f.Num ∧ f.Num ≤ 1000000000 ∧ f.Den ≤ 1000000000 then 0 else 2) else 3
theorem QCc (f : Frac) : Qbt f = some (decide (0 < f.Den ∧ Yx f.Num f.Den = some 1)) := by
  unfold Qbt
  by_cases hd : 0 < f.Den
  · rw [decide_eq_true hd, cond_true]
    obtain ⟨g, hg⟩ := Qpr f.Num f.Den
    rw [hg, Option.bind_some]
    simp [hd]
  · rw [decide_eq_false hd, cond_false, Option.bind_some]
    simp [hd]
noncomputable def Y5 : List Frac → Int
  | [] => 0
  | f :: l => if Yp f = 0 then Y5 l else Yp f
theorem Qli (l : List Frac) (k : Nat) (f : Option Int) : (jn0 (XB (fun f => !decide (Yp f = 0)) (fun _ f => Yp f) k l) fun (_ : Unit) => f) = if Y5 l = 0 then f else some (Y5 l) := by
  induction l generalizing k with
  | nil => simp [XB, jn0, Y5]
  | cons x xs ih =>
    by_cases h : Yp x = 0
    · simp [XB, Y5, h]; exact ih _
    · simp [XB, Y5, h, jn0]
theorem Qwt (cs : List Frac) (k : Nat) (hk : k < cs.length) (hl : cs.length < 1000000) : Qdy cs (k : Int) = (bif !decide (Yp cs[k] = 0) then some (.inr (.inl (Yp cs[k]))) else some (.inl ((k + 1 : Nat) : Int))) := by
  unfold Qdy
  rw [Ys hk, cond_true, Yh hk, Option.bind_some, QCc, Option.bind_some]
  unfold Qfu
  simp only [Qwc, Option.bind_some, YZ k (by omega)]
  unfold Yp
  by_cases h1 : 0 < cs[k].Den ∧ Yx cs[k].Num cs[k].Den = some 1
  · rw [if_pos h1, decide_eq_true h1]
    by_cases h2 : -1000000000 ≤ cs[k].Num ∧ cs[k].Num ≤ 1000000000
    · have : (decide (-1000000000 ≤ cs[k].Num) && decide (cs[k].Num ≤ 1000000000)) = true := by simp [h2]
      simp only [this, cond_true, Option.bind_some, Bool.true_and, Bool.not_true, cond_false]
      by_cases h3 : cs[k].Den ≤ 1000000000
      · have : (decide (1 ≤ cs[k].Den) && decide (cs[k].Den ≤ 1000000000)) = true := by simp [h3]; omega
        rw [this, if_pos ⟨h2.1, h2.2, h3⟩]; rfl
      · have : (decide (1 ≤ cs[k].Den) && decide (cs[k].Den ≤ 1000000000)) = false := by simp [h3]
        rw [this, if_neg (fun h => h3 h.2.2)]; rfl
    · have : (decide (-1000000000 ≤ cs[k].Num) && decide (cs[k].Num ≤ 1000000000)) = false := by
        rw [Bool.eq_false_iff]; simpa using h2
      simp only [this, cond_false, Option.bind_some, Bool.false_and, Bool.not_true, Bool.not_false, cond_true]
      rw [if_neg (fun h => h2 ⟨h.1, h.2.1⟩)]; rfl
  · rw [if_neg h1, decide_eq_false h1]; rfl
theorem QEu (l : FeedLadder) (cs : List Frac) (hl : cs.length < 1000000) : Qdz l cs = some (if cs.length ≠ l.Ohms.length then 10 else Y5 cs) := by
  unfold Qdz
  by_cases h : cs.length = l.Ohms.length
  · rw [decide_eq_true (by omega), Bool.not_true, cond_false, ZK cs (fun f => !decide (Yp f = 0)) (fun _ f => Yp f), Option.bind_some, Qli, if_neg (show ¬ cs.length ≠ l.Ohms.length by simpa using h)]
    · by_cases h0 : Y5 cs = 0
      · rw [if_pos h0, h0]
      · rw [if_neg h0]
    · intro k hk; exact Qwt cs k hk hl
    · unfold Qdy
      rw [YC]; rfl
  · rw [decide_eq_false (by omega), if_pos h]; rfl
theorem Qws (cs : List Frac) (k : Nat) (hk : k < cs.length) (hl : cs.length < 1000000) : Qcn cs (k : Int) = (bif !decide (Yp cs[k] = 0) then some (.inr (.inl (Yp cs[k]))) else some (.inl ((k + 1 : Nat) : Int))) := by
  unfold Qcn
  rw [Ys hk, cond_true, Yh hk, Option.bind_some]
  have e1 : (Option.bind (bif decide (0 < cs[k].Den) then Zr cs[k].Num cs[k].Den else some default) fun r569 => Xn ((decide (0 < cs[k].Den)) && (decide (r569 = 1))) 3) = some (if 0 < cs[k].Den ∧ Yx cs[k].Num cs[k].Den = some 1 then 0 else 3) := by
    by_cases hd : 0 < cs[k].Den
    · rw [decide_eq_true hd, cond_true, Qlk]
      obtain ⟨g, hg⟩ := Qpr cs[k].Num cs[k].Den
      rw [hg, Option.bind_some, JV]
      by_cases h1 : g = 1
      · subst h1; simp [hd]
      · simp [hd, h1]
    · rw [decide_eq_false hd, cond_false, Option.bind_some, JV]
      simp [hd]
  have e2 : ∀ r, (Option.bind (ZU cs[k].Num 1000000000) fun r616 => Xn (r616 && (decide (cs[k].Den ≤ 1000000000))) r) = some (if -1000000000 ≤ cs[k].Num ∧ cs[k].Num ≤ 1000000000 ∧ cs[k].Den ≤ 1000000000 then 0 else r) := fun r => by
    rw [Qtq _ _ (by omega) (by omega), Option.bind_some, JV]
    by_cases h : -1000000000 ≤ cs[k].Num ∧ cs[k].Num ≤ 1000000000 ∧ cs[k].Den ≤ 1000000000
    · rw [if_pos h]; simp [h]
    · rw [if_neg h]
      have : (decide (-1000000000 ≤ cs[k].Num) && decide (cs[k].Num ≤ 1000000000) && decide (cs[k].Den ≤ 1000000000)) = false := by
        rw [Bool.eq_false_iff]; simp; intro a b; exact Classical.byContradiction fun hc => h ⟨a, b, by omega⟩
      rw [this]; rfl
  rw [← Option.bind_assoc, e1, Option.bind_some, ← Option.bind_assoc, e2, Option.bind_some, Qhw _ (by simp), Option.bind_some, YZ k (by omega)]
  unfold Yp
  by_cases h1 : 0 < cs[k].Den ∧ Yx cs[k].Num cs[k].Den = some 1
  · rw [if_pos h1, if_pos h1]
    split <;> simp [YS]
  · rw [if_neg h1, if_neg h1]
    split <;> simp [YS]
theorem Qwj (l : FeedLadder) (cs : List Frac) (h1 : l.Ohms.length < 1000) (h2 : l.Loads.length < 1000) (hl : cs.length < 1000000) :
    Qco l cs = some (if YT l ≠ 0 then YT l else if cs.length ≠ l.Ohms.length then 10 else if Y5 cs ≠ 0 then Y5 cs else if cs = Yf l l.Ohms.sum (lf l l.Ohms.length) l.Ohms.length then 0 else 20) := by
  unfold Qco
  rw [Qpz l h1 h2, Option.bind_some, JV, Option.bind_some, Qhw _ (by simp), Option.bind_some]
  by_cases a : YT l = 0
  · rw [if_neg (by simpa using a), a]
    by_cases b : cs.length = l.Ohms.length
    · rw [if_neg (by simpa using b), decide_eq_true (show (cs.length : Int) = l.Ohms.length by omega)]
      simp only [YS, cond_true, if_true, decide_true, Bool.not_true, cond_false]
      rw [ZK cs (fun f => !decide (Yp f = 0)) (fun _ f => Yp f), Option.bind_some, Qli, Qqa (Qia a)]
      · by_cases c0 : Y5 cs = 0
        · rw [if_pos c0, if_neg (by simpa using c0), Option.bind_some, Qxk _ _ hl, Option.bind_some, JV, Option.bind_some]
          by_cases d0 : cs = Yf l l.Ohms.sum (lf l l.Ohms.length) l.Ohms.length
          · rw [if_pos d0, decide_eq_true d0]; rfl
          · rw [if_neg d0, decide_eq_false d0]; rfl
        · rw [if_neg c0, if_pos c0]
      · intro k hk; exact Qws cs k hk hl
      · unfold Qcn
        rw [YC]; rfl
    · rw [if_pos b, decide_eq_false (show ¬ (cs.length : Int) = l.Ohms.length by omega)]
      simp [YS]
  · rw [if_pos a]
    simp [YS, a]
end Go.Gw

end
