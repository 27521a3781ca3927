/- Walking the model's code over environments: a piece of code, a region in the text's order, a region that draws its order, a loop by its step function. No condition. -/
import Derived.OrdersHeld
import Derived.Tactics
namespace Go.Gw
open Go

abbrev Env := Nat → Value
def upd (ρ : Env) (d : Nat) (v : Value) : Env := fun i => bif Nat.beq i d then v else ρ i
def XA (ρ : Env) (d : Option Nat) (v : Value) : Env := match d with | some d => upd ρ d v | none => ρ
def Xi (n : Nat) (ρ : Env) : Act := ⟨Array.ofFn (n := n) fun i => ρ i.1, []⟩
def QE (n : Nat) (ρ : Env) : Operand → Value
  | .tmp t => bif Nat.blt t n then ρ t else undef
  | .const v => v
  | .global g => .pointer (some ⟨g, 0, none⟩)
  | .func f => .func (.func f) #[] #[]

theorem Qq {α β : Type} (a : α) (f : α → Option β) : (some a).bind f = f a := rfl
theorem Qef (i : Nat) : Nat.beq i i = true := by rw [Nat.beq_eq]
theorem JH {i j : Nat} (h : i ≠ j) : Nat.beq i j = false := by
  cases hb : Nat.beq i j with
  | false => rfl
  | true => rw [Nat.beq_eq] at hb; exact absurd hb h
theorem QAl {i j : Nat} (h : i < j) : Nat.blt i j = true := by rw [Nat.blt_eq]; exact h
theorem Qrt {i j : Nat} (h : j ≤ i) : Nat.blt i j = false := by
  cases hb : Nat.blt i j with
  | false => rfl
  | true => rw [Nat.blt_eq] at hb; omega

theorem Qpe (n : Nat) (ρ : Env) (d : Nat) (v : Value) : (Xi n ρ).put (some d) v = Xi n (upd ρ d v) := by
  simp only [Xi, Act.put]
  congr 1
  apply Array.ext
  · simp
  · intro i h1 h2
    simp only [Array.getElem_ofFn, upd]
    by_cases h : d = i
    · subst h; simp
    · rw [Array.getElem_setIfInBounds_ne (by simpa using h2) h]; simp [JH (Ne.symm h)]

theorem ZM (n : Nat) (ρ : Env) (d : Option Nat) (v : Value) : (Xi n ρ).put d v = Xi n (XA ρ d v) := by
  cases d with
  | none => rfl
  | some d => exact Qpe n ρ d v

theorem Qcu (n : Nat) (ρ : Env) : (Xi n ρ).eval = QE n ρ := by
  funext x
  cases x with
  | tmp t =>
    simp only [Act.eval, Xi, QE]
    by_cases h : t < n
    · simp [Array.getD, h, QAl h]
    · simp [Array.getD, h, Qrt (Nat.le_of_not_lt h)]
  | const v => rfl
  | global g => rfl
  | func f => rfl

theorem Qkm (args : List Value) (n : Nat) (h : args.length ≤ n) :
    ({ tmps := args.toArray ++ Array.replicate (n - args.toArray.size) undef, defers := [] } : Act) = Xi n (fun i => args.getD i undef) := by
  simp only [Xi]
  congr 1
  apply Array.ext
  · simp; omega
  · intro i h1 h2
    simp only [Array.getElem_ofFn]
    simp at h1
    by_cases hi : i < args.length
    · rw [Array.getElem_append_left (by simpa using hi)]; simp [List.getD, hi]
    · rw [Array.getElem_append_right (by simpa using Nat.le_of_not_lt hi)]; simp [List.getD, hi]

def Ret (Φ : Value → World → Prop) : Ending → World → Prop
  | .returned v, w => Φ v w
  | _, _ => False

abbrev CallsTo (P : Program) (f : FuncId) (args : List Value) (w : World) (Φ : Value → World → Prop) : Prop := Calls P f args.toArray w (Ret Φ)

theorem CallsTo.mono {P : Program} {f : FuncId} {args : List Value} {w : World} {Φ Ψ : Value → World → Prop} (h : CallsTo P f args w Φ) (hm : ∀ v w', Φ v w' → Ψ v w') : CallsTo P f args w Ψ :=
  Calls.mono h fun e w' he => by cases e <;> first | exact hm _ _ he | exact he

structure Post where
  norm : Env → World → Prop
  ex : Nat → Env → World → Prop
  ret : Env → World → Prop

def Post.Q (n : Nat) (q : Post) : Exit → Act → World → Prop
  | .normal, a, w => ∃ ρ, a = Xi n ρ ∧ q.norm ρ w
  | .exit i, a, w => ∃ ρ, a = Xi n ρ ∧ q.ex i ρ w
  | .ret, a, w => ∃ ρ, a = Xi n ρ ∧ q.ret ρ w
  | _, _, _ => False

def WC (P : Program) (n : Nat) (c : Code) (q : Post) (ρ : Env) (w : World) : Prop := c.wp P (q.Q n) (Xi n ρ) w

section
variable {P : Program} {n : Nat} {q : Post} {ρ : Env} {w : World}

theorem WC.mono {c : Code} {q' : Post} (h : WC P n c q ρ w) (h1 : ∀ ρ w, q.norm ρ w → q'.norm ρ w) (h2 : ∀ i ρ w, q.ex i ρ w → q'.ex i ρ w) (h3 : ∀ ρ w, q.ret ρ w → q'.ret ρ w) : WC P n c q' ρ w :=
  wp_mono h fun e a w he => by
    cases e <;> first
      | exact he
      | (obtain ⟨ρ, ha, hq⟩ := he; first | exact ⟨ρ, ha, h1 _ _ hq⟩ | exact ⟨ρ, ha, h2 _ _ _ hq⟩ | exact ⟨ρ, ha, h3 _ _ hq⟩)

theorem QB (h : q.norm ρ w) : WC P n .skip q ρ w := wp_skip ⟨ρ, rfl, h⟩
theorem Qw (h : q.ret ρ w) : WC P n .ret q ρ w := wp_ret ⟨ρ, rfl, h⟩
theorem Xb {i : Nat} (h : q.ex i ρ w) : WC P n (.exit i) q ρ w := wp_exit ⟨ρ, rfl, h⟩

theorem Qoz {x y : Code} (h : WC P n x ⟨fun ρ w => WC P n y q ρ w, q.ex, q.ret⟩ ρ w) : WC P n (.seq x y) q ρ w :=
  wp_seq (wp_mono h fun e a w he => by
    cases e <;> first
      | exact he
      | (obtain ⟨ρ, ha, hq⟩ := he; subst ha; exact hq))

theorem Qc {x y : Code} (h : ∀ K : Env → World → Prop, (∀ ρ w, WC P n y q ρ w → K ρ w) → WC P n x ⟨K, q.ex, q.ret⟩ ρ w) : WC P n (.seq x y) q ρ w :=
  Qoz (h _ fun _ _ h => h)

theorem QHp {x y : Code} (M : Env → World → Prop) (h : WC P n x ⟨M, q.ex, q.ret⟩ ρ w) (h2 : ∀ ρ w, M ρ w → WC P n y q ρ w) : WC P n (.seq x y) q ρ w :=
  Qoz (h.mono h2 (fun _ _ _ h => h) (fun _ _ h => h))

theorem Qz {c : Operand} {x y : Code} {b : Bool} (hc : QE n ρ c = .bool b) (ht : b = true → WC P n x q ρ w) (hf : b = false → WC P n y q ρ w) : WC P n (.cond c x y) q ρ w :=
  wp_cond_split (by rw [Qcu]; exact hc) ht hf

theorem QI {i : Nat} {c : Code} (h : WC P n c ⟨q.norm, fun j => bif Nat.beq j i then q.norm else q.ex j, q.ret⟩ ρ w) : WC P n (.block i c) q ρ w :=
  wp_block (wp_mono h fun e a w he => by
    cases e with
    | exit j =>
      obtain ⟨ρ, ha, hq⟩ := he
      subst ha
      simp only [Exit.inBlock]
      by_cases hj : j = i
      · subst hj; simp only [Qef, cond_true] at hq; rw [if_pos rfl]; exact ⟨ρ, rfl, hq⟩
      · rw [if_neg hj]; simp only [JH hj, cond_false] at hq; exact ⟨ρ, rfl, hq⟩
    | _ => exact he)

def YB {σ β : Type} (step : σ → Option (σ ⊕ β)) : Nat → σ → Option β
  | 0, _ => none
  | k + 1, s => match step s with
    | none => none
    | some (.inl s') => YB step k s'
    | some (.inr o) => some o

theorem Quy {c : Code} {σ β : Type} {step : σ → Option (σ ⊕ β)} {k : Nat} {s : σ} {o : β} (I : σ → Env → World → Prop) (h : YB step k s = some o) (h0 : I s ρ w)
    (round : ∀ s ρ w, I s ρ w →
      (∀ s', step s = some (.inl s') → WC P n c ⟨I s', q.ex, q.ret⟩ ρ w) ∧
      (step s = some (.inr o) → WC P n c ⟨fun _ _ => False, q.ex, q.ret⟩ ρ w)) : WC P n (.loop c) q ρ w := by
  refine wp_loop (fun a w => ∃ k s ρ, a = Xi n ρ ∧ YB step k s = some o ∧ I s ρ w)
    (fun a w => Classical.epsilon fun m => (∃ s ρ, a = Xi n ρ ∧ YB step m s = some o ∧ I s ρ w) ∧ ∀ m', m' < m → ¬ ∃ s ρ, a = Xi n ρ ∧ YB step m' s = some o ∧ I s ρ w) ⟨k, s, ρ, rfl, h, h0⟩ ?_
  intro a w hI
  have least : ∀ a w, (∃ m, ∃ s ρ, a = Xi n ρ ∧ YB step m s = some o ∧ I s ρ w) →
      ∃ m, (∃ s ρ, a = Xi n ρ ∧ YB step m s = some o ∧ I s ρ w) ∧ ∀ m', m' < m → ¬ ∃ s ρ, a = Xi n ρ ∧ YB step m' s = some o ∧ I s ρ w := by
    rintro a w ⟨m, hm⟩
    induction m using Nat.strongRecOn with
    | _ m ih =>
      by_cases hex : ∃ m', m' < m ∧ ∃ s ρ, a = Xi n ρ ∧ YB step m' s = some o ∧ I s ρ w
      · obtain ⟨m', hlt, hm'⟩ := hex; exact ih m' hlt hm'
      · exact ⟨m, hm, fun m' hlt hm' => hex ⟨m', hlt, hm'⟩⟩
  have hl := Classical.epsilon_spec (least a w hI)
  revert hl
  generalize (Classical.epsilon fun m => (∃ s ρ, a = Xi n ρ ∧ YB step m s = some o ∧ I s ρ w) ∧ ∀ m', m' < m → ¬ ∃ s ρ, a = Xi n ρ ∧ YB step m' s = some o ∧ I s ρ w) = m
  rintro ⟨⟨s, ρ, rfl, hs, hI⟩, _⟩
  cases m with
  | zero => cases hs
  | succ m =>
    have hr := round s ρ w hI
    simp only [YB] at hs
    split at hs
    · cases hs
    · rename_i s' hst
      refine wp_mono (hr.1 s' hst) fun e a' w' he => ?_
      cases e <;> first
        | exact he
        | skip
      obtain ⟨ρ', rfl, hI'⟩ := he
      have hex : ∃ m, ∃ s ρ, Xi n ρ' = Xi n ρ ∧ YB step m s = some o ∧ I s ρ w' := ⟨m, s', ρ', rfl, hs, hI'⟩
      refine ⟨⟨m, s', ρ', rfl, hs, hI'⟩, ?_⟩
      have hl' := Classical.epsilon_spec (least (Xi n ρ') w' hex)
      revert hl'
      generalize (Classical.epsilon fun m => (∃ s ρ, Xi n ρ' = Xi n ρ ∧ YB step m s = some o ∧ I s ρ w') ∧ ∀ m', m' < m → ¬ ∃ s ρ, Xi n ρ' = Xi n ρ ∧ YB step m' s = some o ∧ I s ρ w') = m2
      rintro ⟨_, hmin⟩
      rcases Nat.lt_or_ge m2 (m + 1) with hlt | hge
      · exact hlt
      · exact absurd ⟨s', ρ', rfl, hs, hI'⟩ (hmin m hge)
    · rename_i o' hst
      cases hs
      exact wp_mono (hr.2 hst) fun e a' w' he => by
        cases e <;> first
          | exact he
          | (obtain ⟨_, _, hf⟩ := he; exact hf.elim)

/-! ### Operations -/

def Eff (P : Program) (o : Oper) (n : Nat) (ρ : Env) (w : World) (K : Value → World → Prop) : Prop :=
  match (execOp (QE n ρ) o).run P w with
  | .ok (.value v) w' => K v w'
  | .ok .skip w' => K undef w'
  | .ok (.enter f args) w' => Calls P f args w' (Ret K)
  | _ => False

def XL (ops : Array Oper) (o : Oper) (n : Nat) (ρ : Env) : Bool := Region.wanted o (yielded ops (Xi n ρ).tmps)

def Stp (P : Program) (n : Nat) (ops : Array Oper) (o : Oper) (ρ : Env) (w : World) (K : Env → World → Prop) : Prop :=
  if XL ops o n ρ then Eff P o n ρ w (fun v w' => K (XA ρ o.dst v) w') else K (XA ρ o.dst undef) w

def T0 (P : Program) (n : Nat) (ops : Array Oper) (K : Env → World → Prop) : List Oper → Env → World → Prop
  | [], ρ, w => K ρ w
  | o :: os, ρ, w => Stp P n ops o ρ w (T0 P n ops K os)

theorem Eff.mono {o : Oper} {K K' : Value → World → Prop} (h : Eff P o n ρ w K) (hm : ∀ v w', K v w' → K' v w') : Eff P o n ρ w K' := by
  unfold Eff at *
  split at h
  · exact hm _ _ h
  · exact hm _ _ h
  · exact Calls.mono h fun e w' he => by cases e <;> first | exact hm _ _ he | exact he
  · exact h.elim

theorem Stp.toWpOp {ops : Array Oper} {i : Nat} {o : Oper} {K : Env → World → Prop} {K' : Act → World → Prop} {Q : Exit → Act → World → Prop} (hi : ops[i]? = some o) (h : Stp P n ops o ρ w K)
    (hK : ∀ ρ w, K ρ w → K' (Xi n ρ) w) : wpOp P ops Q i K' (Xi n ρ) w := by
  unfold Stp at h
  unfold XL at h
  simp only [wpOp, hi]
  split
  · rename_i hw
    rw [if_pos hw] at h
    left
    unfold Eff at h
    simp only [Oper.wp, Qcu]
    split at h
    · rename_i v w' hr; simp only [hr, Oper.upon, ZM]; exact hK _ _ h
    · rename_i w' hr; simp only [hr, Oper.upon, ZM]; exact hK _ _ h
    · rename_i f args w' hr
      simp only [hr, Oper.upon]
      exact Calls.mono h fun e w'' he => by
        cases e with
        | returned v => simp only [ZM]; exact hK _ _ he
        | _ => exact he.elim
    · exact h.elim
  · rename_i hw
    rw [if_neg hw] at h
    rw [ZM]
    exact hK _ _ h

theorem Stp.toList {ops : Array Oper} {o : Oper} {K : Env → World → Prop} {K' : Act → World → Prop} {Q : Exit → Act → World → Prop} (h : Stp P n ops o ρ w K)
    (hK : ∀ ρ w, K ρ w → K' (Xi n ρ) w) : if Region.wanted o (yielded ops (Xi n ρ).tmps) then o.wp P (Xi n ρ) w K' Q ∨ (o.asks P (Xi n ρ) w ∧ LetsOut Q) else K' ((Xi n ρ).put o.dst undef) w := by
  unfold Stp XL at h
  split
  · rename_i hw
    rw [if_pos hw] at h
    left
    unfold Eff at h
    simp only [Oper.wp, Qcu]
    split at h
    · rename_i v w' hr; simp only [hr, Oper.upon, ZM]; exact hK _ _ h
    · rename_i w' hr; simp only [hr, Oper.upon, ZM]; exact hK _ _ h
    · rename_i f args w' hr
      simp only [hr, Oper.upon]
      exact Calls.mono h fun e w'' he => by
        cases e with
        | returned v => simp only [ZM]; exact hK _ _ he
        | _ => exact he.elim
    · exact h.elim
  · rename_i hw
    rw [if_neg hw] at h
    rw [ZM]
    exact hK _ _ h

theorem T0.toWpList {ops : Array Oper} {K : Env → World → Prop} {Q : Exit → Act → World → Prop} (hK : ∀ ρ w, K ρ w → Q .normal (Xi n ρ) w) :
    ∀ (l : List Oper) (ρ : Env) (w : World), T0 P n ops K l ρ w → wpList P ops Q l (Xi n ρ) w
  | [], ρ, w, h => hK ρ w h
  | _ :: os, ρ, w, h => Stp.toList h (fun ρ w h' => T0.toWpList hK os ρ w h')

theorem Qf {id : Nat} {ops : List Oper} (h : T0 P n ops.toArray q.norm ops ρ w) : WC P n (.region id ops.toArray false) q ρ w :=
  wp_region_lit (T0.toWpList (fun ρ _ h' => ⟨ρ, rfl, h'⟩) ops ρ w h)

/-! ### A region that draws its order -/

def Quiet (P : Program) (n : Nat) (ops : Array Oper) (S : World → Prop) (o : Oper) (ρ : Env) (v : Value) : Prop :=
  (XL ops o n ρ = true ∧ ∀ w, S w → (execOp (QE n ρ) o).run P w = .ok (.value v) w) ∨ (XL ops o n ρ = false ∧ v = undef)

def TS (P : Program) (n : Nat) (ops : List Oper) (S : World → Prop) (Kt : Env → World → Prop) : List (Nat × Bool) → Env → World → Prop
  | [], ρ, w => Kt ρ w
  | (i, false) :: rest, ρ, w => ∃ o v, ops[i]? = some o ∧ Quiet P n ops.toArray S o ρ v ∧ TS P n ops S Kt rest (XA ρ o.dst v) w
  | (i, true) :: rest, ρ, w => ∃ o, ops[i]? = some o ∧ Stp P n ops.toArray o ρ w (fun ρ' w' => S w' ∧ TS P n ops S Kt rest ρ' w')

def TT (P : Program) (n : Nat) (ops : List Oper) (K : Env → World → Prop) : List Nat → Env → World → Prop
  | [], ρ, w => K ρ w
  | i :: rest, ρ, w => ∃ o, ops[i]? = some o ∧ Stp P n ops.toArray o ρ w (TT P n ops K rest)

def Qco (ops : Array Oper) : List Nat → Array Bool → Bool
  | [], listed => (Region.ready .any ops listed).isEmpty
  | i :: rest, listed => Region.ready .any ops listed == [i] && Qco ops rest (listed.setIfInBounds i true)

def Qdi (ops : Array Oper) (m : Nat) (tail : List Nat) : List (Nat × Bool) → Array Bool → Bool
  | [], listed => Qco ops tail listed
  | (i, e) :: rest, listed => Nat.blt i m && (if e then Region.ready .any ops listed == [i] else Region.free .any ops listed i && (Region.ready .any ops listed).contains i) &&
      Qdi ops m tail rest (listed.setIfInBounds i true)

def Qap (ops : Array Oper) : Nat → Nat → Nat → Bool
  | 0, _, _ => false
  | f + 1, j, i => match ops[j]? with
    | some o => o.after.any (fun e => Region.binds .any e && e.on == i) || o.after.any (fun e => Region.binds .any e && Qap ops f e.on i)
    | none => false

def Qer (ops : Array Oper) (m : Nat) : Bool :=
  (List.range ops.size).all fun j => Nat.blt j m || (List.range m).all fun i => Qap ops ops.size j i

def Closed (ops : Array Oper) (listed : Array Bool) : Prop := ∀ j oj, ops[j]? = some oj → listed.getD j false = true → ∀ e ∈ oj.after, Region.binds .any e = true → listed.getD e.on false = true

def Jc (listed : Array Bool) (m : Nat) : Nat := ((List.range m).filter fun i => !listed.getD i true).length

def Qqd (ops : Array Oper) (m : Nat) (body : List (Nat × Bool)) (tail : List Nat) : Bool :=
  Region.noSelect ops && Qer ops m && Nat.ble m ops.size && Nat.beq body.length m && Nat.beq (m + tail.length) ops.size && Qdi ops m tail body (Array.replicate ops.size false)

theorem TT.toAny {ops : List Oper} {K : Env → World → Prop} (hK : ∀ ρ w, K ρ w → q.norm ρ w) : ∀ (tail : List Nat) (listed : Array Bool) (fuel : Nat) (ρ : Env) (w : World), fuel = tail.length → Qco ops.toArray tail listed = true →
    TT P n ops K tail ρ w → wpAny P .any ops.toArray (q.Q n) fuel listed (Xi n ρ) w
  | [], listed, fuel, ρ, w, hf, hok, h => by
    subst hf
    exact ⟨by simpa [Qco] using hok, ρ, rfl, hK ρ w h⟩
  | i :: rest, listed, fuel, ρ, w, hf, hok, h => by
    subst hf
    simp only [Qco, Bool.and_eq_true, beq_iff_eq] at hok
    obtain ⟨o, hi, hs⟩ := h
    refine wpAny_all hok.1 (by simp) fun j hj => ?_
    have hj : j = i := by simpa using hj
    subst hj
    exact hs.toWpOp (by simpa using hi) fun ρ w h' => TT.toAny hK rest _ _ ρ w rfl hok.2 h'

theorem Quiet.yields {ops : Array Oper} {S : World → Prop} {o : Oper} {v : Value} (h : Quiet P n ops S o ρ v) : YieldsIf P ops S o v (Xi n ρ) := by
  unfold Quiet XL at h
  unfold YieldsIf
  rw [Qcu]
  exact h

def anyB (P : Program) (ops : Array Oper) (Q : Exit → Act → World → Prop) (S : World → Prop) (Kt : Array Bool → Act → World → Prop) : Nat → Array Bool → Act → World → Prop
  | 0, listed, a, w => Kt listed a w
  | fuel + 1, listed, a, w => Region.ready .any ops listed ≠ [] ∧ ∀ i ∈ Region.ready .any ops listed, wpOp P ops Q i (fun a' w' => S w' ∧ anyB P ops Q S Kt fuel (listed.setIfInBounds i true) a' w') a w

theorem anyB.toAny {ops : Array Oper} {Q : Exit → Act → World → Prop} {S : World → Prop} {Kt : Array Bool → Act → World → Prop} {t : Nat} (ht : ∀ listed a w, Kt listed a w → wpAny P .any ops Q t listed a w) :
    ∀ (fuel : Nat) (listed : Array Bool) (a : Act) (w : World), anyB P ops Q S Kt fuel listed a w → wpAny P .any ops Q (fuel + t) listed a w
  | 0, listed, a, w, h => by rw [Nat.zero_add]; exact ht _ _ _ h
  | fuel + 1, listed, a, w, h => by
    have e : fuel + 1 + t = (fuel + t) + 1 := by omega
    rw [e]
    exact ⟨fun h0 => absurd h0 h.1, fun i hi => wpOp_mono (fun a' w' h' => anyB.toAny ht fuel _ a' w' h'.2) (h.2 i hi)⟩

theorem Qtl {listed : Array Bool} {m i j : Nat} (hi : i < m) (hj : j < m) (hne : i ≠ j) (h1 : listed.getD i true = false) (h2 : listed.getD j true = false) : 2 ≤ Jc listed m := by
  unfold Jc
  have hsub : [i, j].Sublist ((List.range m).filter fun i => !listed.getD i true) ∨ [j, i].Sublist ((List.range m).filter fun i => !listed.getD i true) := by
    have hs : ((List.range m).filter fun i => !listed.getD i true).Pairwise (· < ·) := List.Pairwise.filter _ List.pairwise_lt_range
    have hmi : i ∈ (List.range m).filter fun i => !listed.getD i true := by simp only [List.mem_filter, List.mem_range, hi, h1]; simp
    have hmj : j ∈ (List.range m).filter fun i => !listed.getD i true := by simp only [List.mem_filter, List.mem_range, hj, h2]; simp
    revert hs hmi hmj
    generalize (List.range m).filter (fun i => !listed.getD i true) = l
    intro hs hmi hmj
    induction l with
    | nil => cases hmi
    | cons x xs ih =>
      rcases List.mem_cons.1 hmi with rfl | hmi'
      · rcases List.mem_cons.1 hmj with rfl | hmj'
        · exact absurd rfl hne
        · exact .inl (List.Sublist.cons_cons _ (by simpa using hmj'))
      · rcases List.mem_cons.1 hmj with rfl | hmj'
        · exact .inr (List.Sublist.cons_cons _ (by simpa using hmi'))
        · rcases ih (List.pairwise_cons.1 hs).2 hmi' hmj' with h | h
          · exact .inl (h.cons _)
          · exact .inr (h.cons _)
  rcases hsub with h | h <;> simpa using h.length_le

theorem Js {listed : Array Bool} {m i : Nat} (hi : i < m) (h1 : listed.getD i true = false) : Jc listed m = Jc (listed.setIfInBounds i true) m + 1 := by
  unfold Jc
  have hil : i < listed.size := by
    rcases Nat.lt_or_ge i listed.size with h | h
    · exact h
    · simp [Array.getD, Nat.not_lt.2 h] at h1
  have key : ∀ l : List Nat, l.Nodup → i ∈ l → (l.filter fun k => !listed.getD k true).length = (l.filter fun k => !(listed.setIfInBounds i true).getD k true).length + 1 := by
    intro l
    induction l with
    | nil => intro _ h; cases h
    | cons x xs ih =>
      intro hnd hmem
      have hnd' := List.nodup_cons.1 hnd
      by_cases hx : x = i
      · subst hx
        have e1 : (listed.setIfInBounds x true).getD x true = true := by simp [Array.getD, hil]
        have e2 : xs.filter (fun k => !listed.getD k true) = xs.filter (fun k => !(listed.setIfInBounds x true).getD k true) := by
          apply List.filter_congr
          intro k hk
          have : x ≠ k := fun e => hnd'.1 (e ▸ hk)
          rw [getD_set_ne true this]
        rw [List.filter_cons_of_pos (by simp [h1]), List.filter_cons_of_neg (by simp [e1]), e2]; rfl
      · have hm : i ∈ xs := by rcases List.mem_cons.1 hmem with h | h; exact absurd h.symm hx; exact h
        have := ih hnd'.2 hm
        have e : (listed.setIfInBounds i true).getD x true = listed.getD x true := getD_set_ne true (Ne.symm hx)
        by_cases hb : listed.getD x true = false
        · rw [List.filter_cons_of_pos (by simp [hb]), List.filter_cons_of_pos (by rw [e]; simp [hb])]; simp only [List.length_cons, this]
        · rw [List.filter_cons_of_neg (by simp [hb]), List.filter_cons_of_neg (by rw [e]; simp [hb])]; exact this
  exact key _ List.nodup_range (by simpa using hi)

theorem Qmg {ops : Array Oper} {listed : Array Bool} (hc : Closed ops listed) : ∀ (f j i : Nat) (oj : Oper), ops[j]? = some oj → (∀ e ∈ oj.after, Region.binds .any e = true → listed.getD e.on false = true) → Qap ops f j i = true → listed.getD i false = true
  | 0, _, _, _, _, _, h => by cases h
  | f + 1, j, i, oj, hj, hall, h => by
    simp only [Qap, hj, Bool.or_eq_true] at h
    rcases h with h | h
    · obtain ⟨e, he, hb⟩ := Array.any_eq_true'.1 h
      simp only [Bool.and_eq_true, beq_iff_eq] at hb
      rw [← hb.2]; exact hall e he hb.1
    · obtain ⟨e, he, hb⟩ := Array.any_eq_true'.1 h
      simp only [Bool.and_eq_true] at hb
      have hl := hall e he hb.1
      cases ho : ops[e.on]? with
      | none =>
        have h2 := hb.2
        cases f with
        | zero => cases h2
        | succ f => simp [Qap, ho] at h2
      | some o' => exact Qmg hc f e.on i o' ho (hc _ _ ho hl) hb.2

theorem Closed.none (ops : Array Oper) (k : Nat) : Closed ops (Array.replicate k false) := fun j oj _ h => by
  by_cases hj : j < k <;> simp [Array.getD, hj] at h

theorem Closed.set {ops : Array Oper} {listed : Array Bool} {j : Nat} (hc : Closed ops listed) (hj : j ∈ Region.ready .any ops listed) : Closed ops (listed.setIfInBounds j true) := fun k ok hk hl e he hb => by
  obtain ⟨_, oj, hoj, hall⟩ := mem_ready.1 hj
  by_cases hjk : j = k
  · subst hjk
    rw [hoj] at hk; cases hk
    exact getD_set_true (hall e he hb)
  · rw [getD_set_ne false hjk] at hl
    exact getD_set_true (hc k ok hk hl e he hb)

theorem Qtp {ops : Array Oper} {m : Nat} (h : Qer ops m = true) {listed : Array Bool} (hc : Closed ops listed) {j i : Nat} (hj : j ∈ Region.ready .any ops listed) (hi : i < m) (hu : listed.getD i true = false) (his : i < listed.size) : j < m := by
  rcases Nat.lt_or_ge j m with hlt | hge
  · exact hlt
  · exfalso
    obtain ⟨hju, oj, hoj, hall⟩ := mem_ready.1 hj
    have hjs : j < ops.size := (Array.getElem?_eq_some_iff.1 hoj).1
    simp only [Qer, List.all_eq_true, List.mem_range] at h
    have h1 := h j hjs
    simp only [Qrt hge, Bool.false_or, List.all_eq_true, List.mem_range] at h1
    have h2 := Qmg hc _ _ _ _ hoj hall (h1 i hi)
    simp [Array.getD, his] at hu h2
    rw [hu] at h2; cases h2

theorem Qvg {ops : Array Oper} {Q : Exit → Act → World → Prop} {S : World → Prop} {Kt : Array Bool → Act → World → Prop} {m i : Nat} {oi : Oper} {v : Value} (hi : ops[i]? = some oi) (him : i < m) (hw : Qer ops m = true)
    (hsel : ∀ (j : Nat) (o : Oper) cs b, ops[j]? = some o → o.op ≠ .select cs b) (hQ : ∀ c a w, ¬ Q (.panic c) a w) :
    ∀ (fuel : Nat) (listed : Array Bool) (a : Act) (w : World), listed.size = ops.size → Closed ops listed → fuel + 1 = Jc listed m →
      (∀ j oj, ops[j]? = some oj → j ≠ i → listed.getD j true = false → (∀ e ∈ oj.after, Region.binds .any e = true → e.on ≠ i) → oi.apart ops oj = true) →
      i ∈ Region.ready .any ops listed → YieldsIf P ops S oi v a → S w →
      anyB P ops Q S Kt fuel (listed.setIfInBounds i true) (a.put oi.dst v) w → anyB P ops Q S Kt (fuel + 1) listed a w := by
  have hQ' : ∀ c (a : Act) w, Q (.panic c) (a.put oi.dst v) w → Q (.panic c) a w := fun c a w h => absurd h (hQ _ _ _)
  intro fuel
  induction fuel with
  | zero =>
    intro listed a w hls hcl hcnt _ hr hy hS H
    refine ⟨fun h => (by rw [h] at hr; cases hr), fun j hj => ?_⟩
    by_cases hji : j = i
    · subst hji; exact hy.wpOp hi hS ⟨hS, H⟩
    · exfalso
      have hiu := (mem_ready.1 hr).1
      have hjm : j < m := Qtp hw hcl hj him (by simpa using hiu) (by rw [hls]; exact (Array.getElem?_eq_some_iff.1 hi).1)
      have := Qtl (listed := listed) hjm him hji (by simpa using (mem_ready.1 hj).1) (by simpa using hiu)
      omega
  | succ fuel ih =>
    intro listed a w hls hcl hcnt hfree hr hy hS H
    refine ⟨fun h => (by rw [h] at hr; cases hr), fun j hj => ?_⟩
    by_cases hji : j = i
    · subst hji; exact hy.wpOp hi hS ⟨hS, H⟩
    · have hiu := (mem_ready.1 hr).1
      have hjm : j < m := Qtp hw hcl hj him (by simpa using hiu) (by rw [hls]; exact (Array.getElem?_eq_some_iff.1 hi).1)
      have h1 := H.2 j (ready_mono hj hji)
      obtain ⟨hjun, oj, hoj, hall⟩ := mem_ready.1 hj
      have hnot : ∀ e ∈ oj.after, Region.binds .any e = true → e.on ≠ i := fun e he hb heq => by
        have h1 := hall e he hb
        have h0 := (mem_ready.1 hr).1
        rw [heq] at h1
        rcases Nat.lt_or_ge i listed.size with h' | h'
        · simp [h'] at h0 h1; rw [h0] at h1; cases h1
        · simp [Array.getElem?_eq_none h'] at h1
      have h2 := wpOp_putIf hoj (hfree j oj hoj hji hjun hnot) (fun cs b => hsel i oi cs b hi) (fun cs b => hsel j oj cs b hoj) hQ' hy h1
      have hfree' : ∀ k ok, ops[k]? = some ok → k ≠ i → (listed.setIfInBounds j true).getD k true = false →
          (∀ e ∈ ok.after, Region.binds .any e = true → e.on ≠ i) → oi.apart ops ok = true := fun k ok hk hki hun hno => by
        refine hfree k ok hk hki ?_ hno
        by_cases hjk : j = k
        · subst hjk; exact hjun
        · rw [getD_set_ne true hjk] at hun; exact hun
      refine wpOp_mono (fun a' w' h3 => ⟨h3.2.1, ih (listed.setIfInBounds j true) a' w' (by simpa using hls) (hcl.set hj) (by have := Js (listed := listed) hjm (by simpa using hjun); omega) hfree' (ready_mono hr (Ne.symm hji)) h3.1 h3.2.1 ?_⟩) h2
      rw [Array.setIfInBounds_comm _ _ hji]
      exact h3.2.2

theorem TS.toB {ops : List Oper} {S : World → Prop} {m : Nat} {tail : List Nat} {K : Env → World → Prop} (hsel : Region.noSelect ops.toArray = true) (hw : Qer ops.toArray m = true) :
    ∀ (body : List (Nat × Bool)) (listed : Array Bool) (ρ : Env) (w : World), listed.size = ops.toArray.size → Closed ops.toArray listed → Jc listed m = body.length → Qdi ops.toArray m tail body listed = true → S w →
    TS P n ops S (TT P n ops K tail) body ρ w →
    anyB P ops.toArray (q.Q n) S (fun listed a w => ∃ ρ, a = Xi n ρ ∧ Qco ops.toArray tail listed = true ∧ TT P n ops K tail ρ w) body.length listed (Xi n ρ) w
  | [], _, ρ, _, _, _, _, hok, _, h => ⟨ρ, rfl, hok, h⟩
  | (i, false) :: rest, listed, ρ, w, hls, hcl, hc, hok, hS, h => by
    simp only [Qdi, Bool.and_eq_true, Bool.false_eq_true, if_false] at hok
    obtain ⟨⟨him, hf, hr⟩, hrest⟩ := hok
    obtain ⟨o, v, hi', hq, ht⟩ := h
    have hi : ops.toArray[i]? = some o := by simpa using hi'
    have him : i < m := by simpa [Nat.blt_eq] using him
    have hr : i ∈ Region.ready .any ops.toArray listed := by simpa using hr
    have hu := (mem_ready.1 hr).1
    have hc' := Js (listed := listed) him (by simpa using hu)
    refine Qvg hi him hw (Region.noSelect_spec hsel) (fun _ _ _ h => h) rest.length listed _ w hls hcl (by rw [hc]; rfl) (Region.free_spec hi hf) hr hq.yields hS ?_
    rw [ZM]
    exact TS.toB hsel hw rest _ _ w (by simpa using hls) (hcl.set hr) (by simp only [List.length_cons] at hc; omega) hrest hS ht
  | (i, true) :: rest, listed, ρ, w, hls, hcl, hc, hok, hS, h => by
    simp only [Qdi, Bool.and_eq_true, if_true, beq_iff_eq] at hok
    obtain ⟨⟨him, hr⟩, hrest⟩ := hok
    obtain ⟨o, hi', hs⟩ := h
    have hi : ops.toArray[i]? = some o := by simpa using hi'
    have him : i < m := by simpa [Nat.blt_eq] using him
    have hr' : i ∈ Region.ready .any ops.toArray listed := by rw [hr]; simp
    have hu := (mem_ready.1 hr').1
    have hc' := Js (listed := listed) him (by simpa using hu)
    refine ⟨by rw [hr]; simp, fun j hj => ?_⟩
    have hj : j = i := by rw [hr] at hj; simpa using hj
    subst hj
    exact hs.toWpOp hi fun ρ w h' => ⟨h'.1, TS.toB hsel hw rest _ _ w (by simpa using hls) (hcl.set hr') (by simp only [List.length_cons] at hc; omega) hrest h'.1 h'.2⟩

theorem Qtk (k m : Nat) (h : m ≤ k) : Jc (Array.replicate k false) m = m := by
  unfold Jc
  rw [List.filter_eq_self.2]
  · simp
  · intro a ha
    have : a < k := Nat.lt_of_lt_of_le (by simpa using ha) h
    simp [Array.getD, this]

theorem QHo {id : Nat} {ops : List Oper} (S : World → World → Prop) (hm : P.follows .mixedOrders = true) (m : Nat) (body : List (Nat × Bool)) (tail : List Nat) (hok : Qqd ops.toArray m body tail = true)
    (hS : ∀ w, S w w) (h : TS P n ops (S { w with drawn := w.drawn + 1 }) (TT P n ops q.norm tail) body ρ { w with drawn := w.drawn + 1 }) : WC P n (.region id ops.toArray true) q ρ w := by
  simp only [Qqd, Bool.and_eq_true] at hok
  obtain ⟨⟨⟨⟨⟨hsel, hw⟩, hle⟩, hb⟩, ht⟩, hbody⟩ := hok
  have hb : body.length = m := by simpa [Nat.beq_eq] using hb
  have ht : m + tail.length = ops.toArray.size := by simpa [Nat.beq_eq] using ht
  have hle : m ≤ ops.toArray.size := by simpa using hle
  refine wp_region_any hm ?_
  have := TS.toB (q := q) hsel hw body (Array.replicate ops.toArray.size false) ρ _ (by simp) (Closed.none _ _) (by rw [Qtk _ _ hle, hb]) hbody (hS _) h
  have := anyB.toAny (t := tail.length) (fun listed a w ⟨ρ, ha, hok, h⟩ => by subst ha; exact TT.toAny (fun _ _ h => h) tail listed _ ρ w rfl hok h) body.length _ _ _ this
  rw [hb, ht] at this
  exact this

/-! ### Functions -/

def Qot (P : Program) (ρ : Env) (w : World) (r : ResultVar) (v : Value) : Prop :=
  match r with
  | .tmp t => ρ t = v
  | .cell a t => ∃ ad, ρ a = .pointer (some ad) ∧ (loadVar t ad).run P w = .ok v w

def Qbb (P : Program) (ρ : Env) (w : World) : List ResultVar → List Value → Prop
  | [], [] => True
  | r :: rs, v :: vs => Qot P ρ w r v ∧ Qbb P ρ w rs vs
  | _, _ => False

def ZK : List ResultVar → Nat → Bool
  | [], _ => true
  | .tmp t :: rs, n => Nat.blt t n && ZK rs n
  | .cell a _ :: rs, n => Nat.blt a n && ZK rs n

theorem Qqn {t : Nat} (h : Nat.blt t n = true) : (Xi n ρ).tmps.getD t undef = ρ t := by
  have : t < n := by simpa [Nat.blt_eq] using h
  simp [Xi, Array.getD, this]

def tup (vs : List Value) : Value := match vs with | [v] => v | vs => .tuple vs.toArray

def Qdm (tmps : Array Value) : ResultVar → Sem Value
  | .tmp t => pure (tmps.getD t undef)
  | .cell a t => do loadVar t (← asAddr (tmps.getD a undef))

theorem QEm (fn : Func) (tmps : Array Value) : results fn tmps = (do let vs ← fn.results.mapM (Qdm tmps); pure (if h : vs.size = 1 then vs[0] else .tuple vs)) := by
  unfold results
  congr 1

theorem QEr {r : ResultVar} {v : Value} (hm : ZK [r] n = true) (h : Qot P ρ w r v) : (Qdm (Xi n ρ).tmps r).run P w = .ok v w := by
  cases r with
  | tmp t =>
    simp only [ZK, Bool.and_true] at hm
    have h : ρ t = v := h
    simp only [Qdm, Qqn hm, h, Sem.run_pure]
  | cell a t =>
    simp only [ZK, Bool.and_true] at hm
    obtain ⟨ad, h1, h3⟩ := h
    simp only [Qdm, Qqn hm, h1, asAddr, pure_bind, h3]

theorem Qnq {fn : Func} {rs : List ResultVar} {vs : List Value} (hr : fn.results = rs.toArray) (hm : ZK rs n = true) (h : Qbb P ρ w rs vs) : (results fn (Xi n ρ).tmps).run P w = .ok (tup vs) w := by
  have key : ∀ (rs : List ResultVar) (vs : List Value), ZK rs n = true → Qbb P ρ w rs vs → (rs.mapM (Qdm (Xi n ρ).tmps)).run P w = .ok vs w := by
    intro rs
    induction rs with
    | nil => intro vs _ h; cases vs with | nil => rfl | cons v vs => exact h.elim
    | cons r rs ih =>
      intro vs hm h
      cases vs with
      | nil => exact h.elim
      | cons v vs =>
        obtain ⟨h1, h2⟩ := h
        have hm1 : ZK [r] n = true ∧ ZK rs n = true := by
          cases r <;> simpa only [ZK, Bool.and_eq_true, Bool.and_true] using hm
        simp only [List.mapM_cons, Sem.run_bind, QEr hm1.1 h1, ih vs hm1.2 h2, Result.andThen, Sem.run_pure]
  have k := key rs vs hm h
  rw [QEm, hr, List.mapM_toArray]
  simp only [map_eq_pure_bind, Sem.run_bind, k, Result.andThen, Sem.run_pure]
  cases vs with
  | nil => simp [tup]
  | cons v vs => cases vs <;> simp [tup]

theorem QW {f : FuncId} {fn : Func} {c : Code} {args : List Value} {rs : List ResultVar} {Φ : Value → World → Prop} (hf : P.funcs[f]? = some fn) (hb : fn.body = some c) (hn : fn.ntmps = n) (hl : Nat.ble args.length n = true)
    (hr : fn.results = rs.toArray) (hm : ZK rs n = true)
    (h : WC P n c ⟨fun _ _ => False, fun _ _ _ => False, fun ρ w => ∃ vs, Qbb P ρ w rs vs ∧ Φ (tup vs) w⟩ (fun i => args.getD i undef) w) : CallsTo P f args w Φ := by
  refine calls_of_wp hf hb ?_
  have hl : args.length ≤ n := by simpa using hl
  rw [hn]
  have := Qkm args n hl
  rw [this]
  refine wp_mono h fun e a w he => ?_
  cases e <;> first
    | exact he.elim
    | (obtain ⟨_, _, hf⟩ := he; exact hf.elim)
    | (obtain ⟨ρ, rfl, vs, hv, hΦ⟩ := he
       exact ⟨rfl, _, Qnq hr hm hv, hΦ⟩)

end
end Go.Gw
